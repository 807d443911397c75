/- Part of a proof. -/
import Derived.Lib.Replace
import Derived.Lib.IndexMore
import Derived.Lib.SlTrimSet
import Derived.Test.YtaadpbhondmahaaGreatDoorT7
set_option linter.all false
namespace Go.Ev
def zLi (te : TypeId) (b : Bool) : D := if b then .nili else .iface te .unk
theorem zFX (te : TypeId) (b : Bool) : zxr (zLi te b) = true := by cases b <;> rfl
@[go_sem] theorem zWH (te : TypeId) (b : Bool) : zQZ true (zLi te b) .nili .iface = some b := by cases b <;> rfl
@[go_sem] theorem zWL (P : Program) (op : BinOp) (t : TypeId) (c : Bool) (te : TypeId) (b : Bool) : zP0 P op t c (zLi te b) .nili = zPV P t c (zLi te b) .nili op := by cases b <;> rfl
@[go_sem] theorem zZx (P : Program) (t : TypeId) (c : Bool) (te : TypeId) (b : Bool) : deq P t c (zLi te b) .nili = bnd (kOf P t) (zQZ c (zLi te b) .nili) := by cases b <;> rfl
def lim : Nat := 4294967281
def zyg (s old new : Str) : Prop := s.length < lim /\ 1 <= old.length /\ s.length + Lib.count s old * new.length <= room
instance (s old new : Str) : Decidable (zyg s old new) := inferInstanceAs (Decidable (_ /\ _))
def zna (s old new : Str) : Str := Lib.replaceAll s old new
def zld : List D -> Option D
 | [.str s, .str old, .str new] => if zyg s old new then some (.str (zna s old new)) else none
 | _ => none
theorem znf (s old new : Str) (h : zyg s old new) : zld [.str s, .str old, .str new] = some (.str (zna s old new)) := by simp only [zld, h, if_true]
def zOZ (s sub : Str) : Bool := Lib.contains s sub
def zpv : List D -> Option D
 | [.str s, .str sub] => if s.length < lim then some (.bool (zOZ s sub)) else none
 | _ => none
theorem zDy (s sub : Str) (h : s.length < lim) : zpv [.str s, .str sub] = some (.bool (zOZ s sub)) := by simp only [zpv, h, if_true]
def zD6 (s sep : Str) : Str × Str × Bool := Lib.cut s sep
def zRz : List D -> Option D
 | [.str s, .str sep] => if s.length < lim then some (.tup [.str (zD6 s sep).1, .str (zD6 s sep).2.1, .bool (zD6 s sep).2.2]) else none
 | _ => none
theorem zOO (s sep : Str) (h : s.length < lim) : zRz [.str s, .str sep] = some (.tup [.str (zD6 s sep).1, .str (zD6 s sep).2.1, .bool (zD6 s sep).2.2]) := by simp only [zRz, h, if_true]
def zIF (s set : Str) : Prop := 0 < s.length /\ s.length < lim /\ 2 <= set.length /\ set.length < lim /\ (set.all fun b => decide (b.toNat < 128)) = true
instance (s set : Str) : Decidable (zIF s set) := inferInstanceAs (Decidable (_ /\ _))
def trimS (s set : Str) : Str := Lib.trimS s set
def zJ1 : List D -> Option D
 | [.str s, .str set] => if zIF s set then some (.str (trimS s set)) else none
 | _ => none
theorem zFt (s set : Str) (h : zIF s set) : zJ1 [.str s, .str set] = some (.str (trimS s set)) := by simp only [zJ1, h, if_true]
def zoN (s : Str) (_ _ : Int) : Int × Bool := zj2 s
def zxf (s : Str) (b z : Int) : Prop := s.length < lim /\ b = 10 /\ z = 64
instance (s : Str) (b z : Int) : Decidable (zxf s b z) := inferInstanceAs (Decidable (_ /\ _))
def zpu (te : TypeId) : List D -> Option D
 | [.str s, .int .i64 b, .int .i64 z] => if zxf s b z then some (.tup [.int .i64 (zoN s b z).1, zLi te (zoN s b z).2]) else none
 | _ => none
theorem zvI (te : TypeId) (s : Str) (b z : Int) (h : zxf s b z) : zpu te [.str s, .int .i64 b, .int .i64 z] = some (.tup [.int .i64 (zoN s b z).1, zLi te (zoN s b z).2]) := by simp only [zpu, h, if_true]
def zJ8 (te : TypeId) : List D -> Option D
 | [.str s] => if s.length < lim then some (.tup [.int .i64 (zj2 s).1, zLi te (zj2 s).2]) else none
 | _ => none
theorem zMk (te : TypeId) (s : Str) (h : s.length < lim) : zJ8 te [.str s] = some (.tup [.int .i64 (zj2 s).1, zLi te (zj2 s).2]) := by simp only [zJ8, h, if_true]
def zvV (n _b : Int) : Str := zb8 n
theorem zoR {old : Str} {b : UInt8} {s : Str} (h : old.isPrefixOf (b :: s) = true) : Lib.index (b :: s) old = 0 := by rw [Lib.index, if_pos h]
theorem znl {old : Str} {b : UInt8} {s : Str} (h : old.isPrefixOf (b :: s) = false) : Lib.index (b :: s) old = if Lib.index s old == -1 then -1 else Lib.index s old + 1 := by
 rw [Lib.index, if_neg (by rw [h]; exact Bool.false_ne_true)]
theorem zzW {s old new : Str} (hne : old ≠ new) : zna s old new = Lib.replaceK old new (Lib.count s old) s := by
 unfold zna Lib.replaceAll Lib.replace
 rw [if_neg (by simpa using hne)]
 unfold Lib.replaceNum
 rw [if_pos YJ]
theorem zMF {old : Str} (h0 : old ≠ []) : Lib.index [] old = -1 := by
 cases old with
 | nil => exact absurd rfl h0
 | cons b o => simp [Lib.index]
theorem zta {old new : Str} (h0 : old ≠ []) (hne : old ≠ new) : zna [] old new = [] := by
 rw [zzW hne, Lib.count_miss (zMF h0)]; rfl
theorem zDn {old new : Str} {b : UInt8} {s : Str} (h0 : old ≠ []) (hne : old ≠ new) (h : old.isPrefixOf (b :: s) = true) : zna (b :: s) old new = new ++ zna ((b :: s).drop old.length) old new := by
 have hi : Lib.index (b :: s) old = ((0 : Nat) : Int) := zoR h
 rw [zzW hne, zzW hne, Lib.count_hit h0 hi, yk, Nat.add_comm 1, Lib.replaceK_hit _ _ _ _ 0 hi, yk]
 simp
theorem zvC {old new : Str} {b : UInt8} {s : Str} (h0 : old ≠ []) (hne : old ≠ new) (h : old.isPrefixOf (b :: s) = false) : zna (b :: s) old new = b :: zna s old new := by
 rw [zzW hne, zzW hne]
 have hc := znl h
 have hge := Lib.index_ge s old
 by_cases hm : Lib.index s old = -1
 · rw [hm] at hc
   have hc : Lib.index (b :: s) old = -1 := by rw [hc]; rfl
   rw [Lib.count_miss hc, Lib.count_miss hm]; rfl
 · obtain ⟨i, hi⟩ : ∃ i : Nat, Lib.index s old = i := ⟨(Lib.index s old).toNat, by omega⟩
   rw [hi] at hc
   have hc : Lib.index (b :: s) old = ((i + 1 : Nat) : Int) := by
    rw [hc, if_neg (by intro e; have := eq_of_beq e; omega)]; omega
   have e1 := Lib.count_hit h0 hc
   have e2 := Lib.count_hit h0 hi
   have e3 : (b :: s).drop (i + 1 + old.length) = s.drop (i + old.length) := by rw [show i + 1 + old.length = (i + old.length) + 1 by omega]; rfl
   rw [e3] at e1
   rw [e1, e2, Nat.add_comm 1, Lib.replaceK_hit _ _ _ _ _ hc, Lib.replaceK_hit _ _ _ _ _ hi, e3]
   simp
theorem zJR (s : Str) : zna s [39] [39, 39] = zuJ s := by
 induction s with
 | nil => exact zta (by decide) (by decide)
 | cons b s ih =>
   rw [zpA]
   by_cases h : b = 39
   · subst h
     rw [if_pos rfl, zDn (by decide) (by decide) (by simp [List.isPrefixOf]), <- ih]; rfl
   · rw [if_neg h, zvC (by decide) (by decide) (by simp [List.isPrefixOf]; exact fun e => h e.symm), ih]
theorem zCs (a b c d : UInt8) (s : Str) : List.isPrefixOf [a, b] (c :: d :: s) = (decide (c = a /\ d = b)) := by
 simp [List.isPrefixOf]
 by_cases h : c = a
 · by_cases k : d = b
   · subst h; subst k; simp
   · have : ¬ b = d := fun e => k e.symm
     simp [k, this]
 · have : ¬ a = c := fun e => h e.symm
   simp [h, this]
theorem zCo (new : Str) (hne : ([39, 39] : Str) ≠ new) : ∀ (n : Nat) (s : Str), s.length <= n -> (new = [39] -> zna s [39, 39] new = zm6 s) /\ (new = [] -> zOZ (zna s [39, 39] new) [39] = !zxu s) := by
 have has1 : ∀ (b : UInt8) (s : Str), zOZ (b :: s) [39] = (b == 39 || zOZ s [39]) := by
  intro b s
  unfold zOZ Lib.contains
  by_cases h : b = 39
  · subst h; rw [zoR (by simp [List.isPrefixOf])]; rfl
  · rw [znl (by simp [List.isPrefixOf]; exact fun e => h e.symm)]
    have hb : (b == 39) = false := by simpa using h
    have hge := Lib.index_ge s [39]
    rw [hb, Bool.false_or]
    split
    · rename_i e; rw [eq_of_beq e]
    · rename_i e
      have : Lib.index s [39] ≠ -1 := by simpa using e
      rw [YH YJ, YH YJ]
 have has0 : zOZ [] [39] = false := rfl
 intro n
 induction n with
 | zero =>
   intro s hs
   obtain rfl : s = [] := ym.1 YJ
   rw [zta (by decide) hne]
   exact ⟨fun _ => rfl, fun _ => rfl⟩
 | succ n ih =>
   intro s hs
   match s with
   | [] => rw [zta (by decide) hne]; exact ⟨fun _ => rfl, fun _ => rfl⟩
   | [b] =>
     rw [zvC (by decide) hne (by simp [List.isPrefixOf]), zta (by decide) hne]
     refine ⟨fun _ => rfl, fun _ => ?_⟩
     rw [has1, has0, zxu, Bool.or_false]; simp [bne]
   | b :: c :: t =>
     simp only [yC] at hs
     by_cases h : b = 39 /\ c = 39
     · have e := zCs 39 39 b c t
       rw [YH h] at e
       rw [zDn (by decide) hne e]
       obtain ⟨i1, i2⟩ := ih t YJ
       rw [zm6, if_pos h, zxu, if_pos h]
       refine ⟨fun hn => ?_, fun hn => ?_⟩
       · rw [<- i1 hn, hn]; rfl
       · rw [<- i2 hn, hn]; rfl
     · have e := zCs 39 39 b c t
       rw [YI h] at e
       rw [zvC (by decide) hne e]
       obtain ⟨i1, i2⟩ := ih (c :: t) (by simp; omega)
       rw [zm6, if_neg h, zxu, if_neg h]
       refine ⟨fun hn => by rw [i1 hn], fun hn => ?_⟩
       rw [has1, i2 hn]
       cases hb : (b == 39)
       · have : (b != 39) = true := by simpa using hb
         rw [this]; rfl
       · have : (b != 39) = false := by simpa using hb
         rw [this]; rfl
theorem zJQ (s : Str) : zna s [39, 39] [39] = zm6 s := (zCo [39] (by decide) s.length s (yP _)).1 rfl
theorem zOY (s : Str) : zOZ (zna s [39, 39] []) [39] = !zxu s := (zCo [] (by decide) s.length s (yP _)).2 rfl
theorem zQ9 (s : Str) : zD6 s [46] = zlP s := by
 unfold zD6 Lib.cut zlP
 induction s with
 | nil => rfl
 | cons b s ih =>
   by_cases h : b = 46
   · subst h; rw [zoR (by simp [List.isPrefixOf])]; simp
   · have hb : (b != 46) = true := by simpa using h
     have hb2 : (46 == b) = false := by simp; exact fun e => h e.symm
     rw [znl (by simp [List.isPrefixOf]; exact fun e => h e.symm)]
     have hge := Lib.index_ge s [46]
     simp only [List.takeWhile_cons, List.dropWhile_cons, hb, if_true, List.contains_cons, hb2, Bool.false_or]
     by_cases hm : Lib.index s [46] = -1
     · rw [hm] at ih ⊢
       simp only [show ¬ (0 : Int) <= -1 by omega, if_false, YD] at ih
       simp only [beq_self_eq_true, if_true, show ¬ (0 : Int) <= -1 by omega, if_false, YD]
       exact ⟨by rw [<- ih.1], ih.2.1, ih.2.2⟩
     · obtain ⟨i, hi⟩ : ∃ i : Nat, Lib.index s [46] = i := ⟨(Lib.index s [46]).toNat, by omega⟩
       rw [hi] at ih ⊢
       rw [if_pos YJ] at ih
       simp only [YD] at ih
       have e2 : (if ((i : Int) == -1) = true then (-1 : Int) else (i : Int) + 1) = ((i + 1 : Nat) : Int) := by rw [if_neg (by intro e; have := eq_of_beq e; omega)]; omega
       rw [e2, if_pos YJ, Int.toNat_natCast]
       simp only [YD]
       refine ⟨?_, ?_, ih.2.2⟩
       · rw [List.take_succ_cons, <- ih.1]; simp
       · rw [<- ih.2.1]; simp
theorem zHa {s : Str} : (trimS s zcE == []) = s.all fun b => zcE.contains b := by
 unfold trimS Lib.trimS Lib.trimLeftS Lib.trimRightS
 have h1 : ∀ l : Str, (l.dropWhile (zcE.contains ·) = []) ↔ ∀ b ∈ l, zcE.contains b = true := by
  intro l
  induction l with
  | nil => simp
  | cons b l ih =>
    rw [List.dropWhile_cons]
    split
    · rename_i hb
      rw [ih]
      exact ⟨fun h c hc => by rcases yj.1 hc with rfl | hc; exact hb; exact h c hc, fun h c hc => h c (yU _ hc)⟩
    · rename_i hb; simp; intro h; exact absurd h (by simpa using hb)
 rw [Bool.eq_iff_iff, beq_iff_eq, yl, h1]
 constructor
 · intro h b hb
   by_cases hd : zcE.contains b = true
   · exact hd
   · exfalso
     have key : ∀ l : Str, (∃ b ∈ l, ¬ zcE.contains b = true) -> ∃ b ∈ l.dropWhile (zcE.contains ·), ¬ zcE.contains b = true := by
      intro l
      induction l with
      | nil => rintro ⟨b, hb, _⟩; simp at hb
      | cons c l ih =>
        rintro ⟨b, hb, hd⟩
        rw [List.dropWhile_cons]
        split
        · rename_i hc
          rcases yj.1 hb with rfl | hb
          · exact absurd hc hd
          · exact ih ⟨b, hb, hd⟩
        · exact ⟨b, hb, hd⟩
     obtain ⟨c, hc, hcd⟩ := key s.reverse ⟨b, by simpa using hb, hd⟩
     exact hcd (h c (by simpa using hc))
 · intro h b hb
   refine h b ?_
   have := (List.dropWhile_sublist (zcE.contains ·) (l := s.reverse)).subset (a := b) (by simpa using hb)
   simpa using this
def zz6 : List D -> Option D
 | [] => some (.bool true)
 | _ => none
theorem zJ7 : zz6 [] = some (.bool true) := rfl
end Go.Ev
namespace Go.Ev
open Go.IntKind (wrap)
def zBp (a : Int) : Str := zCG 20 a.toNat
def opS (a : Int) : Str := nth zc5 (a - 5)
def zly : Sl Str := Sl.of zde
def zgZ : Sl Str := Sl.of zc5
def zs9 (r : zbZ) : Str := 116 :: (zb8 r.table ++ 46 :: zb8 r.seq)
noncomputable def zoF (kk sz : Nat) (a : Int) : Option (Str) :=
 sel (
  some (b2s [(wrap .u8 (wrap .u64 (48 + a)))])) (
  bnd (okP ((0 <= (wrap .u64 (a.tdiv 10)) /\ (wrap .u64 (a.tdiv 10)) <= 18446744073709551615 /\ (zBp (wrap .u64 (a.tdiv 10))).length < sz))) fun _ =>
  bnd (okP ((zBp (wrap .u64 (a.tdiv 10))).length + (b2s [(wrap .u8 (wrap .u64 (48 + (a.tmod 10))))]).length <= room)) fun _ =>
  some ((zBp (wrap .u64 (a.tdiv 10))) ++ (b2s [(wrap .u8 (wrap .u64 (48 + (a.tmod 10))))]))) (decide (a < 10))
noncomputable def zmS (kk : Nat) (a : Int) : Option (Str) :=
 sel (
  bnd (okP (0 <= (wrap .u64 (0 - (wrap .u64 a))) /\ (wrap .u64 (0 - (wrap .u64 a))) <= 18446744073709551615 /\ (zBp (wrap .u64 (0 - (wrap .u64 a)))).length < big - 1)) fun _ =>
  bnd (okP ([45].length + (zBp (wrap .u64 (0 - (wrap .u64 a)))).length <= room)) fun _ =>
  some (45 :: (zBp (wrap .u64 (0 - (wrap .u64 a)))))) (
  bnd (okP (0 <= (wrap .u64 a) /\ (wrap .u64 a) <= 18446744073709551615 /\ (zBp (wrap .u64 a)).length < big - 1)) fun _ =>
  some (zBp (wrap .u64 a))) (decide (a < 0))
noncomputable def zgN (c4 : Val) (kk : Nat) : Nat -> Str -> Int -> Option (Out (Str) (Str × Int))
 | 0, _, _ => none
 | k + 1, s2, s3 =>
   sel (
    bnd (zCk c4.text (some s3) (some (wrap .i64 (s3 + 1)))) fun (y5 : Str) =>
    bnd (okP (s2.length + y5.length <= room)) fun _ =>
    bnd (ix c4.text s3) fun (y7 : UInt8) =>
    sel (
     bnd (okP ((s2 ++ y5).length + [39].length <= room)) fun _ =>
     zgN c4 kk k ((s2 ++ y5) ++ [39]) (wrap .i64 (s3 + 1))) (
     zgN c4 kk k (s2 ++ y5) (wrap .i64 (s3 + 1))) ((y7.toNat : Int) == 39)) (
    some (.done (s2, s3))) (decide (s3 < (c4.text.length : Int)))
noncomputable def zoE (kk : Nat) (a : Val) : Option (Str) :=
 sel (
  some []) (
  sel (
   bnd (okP (zkY a.int)) fun _ =>
   some (zb8 a.int)) (
   sel (
    sel (
     some [84, 82, 85, 69]) (
     some [70, 65, 76, 83, 69]) (a.int == 1)) (
    zgD (zgN a kk kk [39] 0) (fun r => some r) fun (q9 : Str × Int) =>
     bnd (okP (q9.1.length + [39].length <= room)) fun _ =>
     some (q9.1 ++ [39])) (a.kind == 2)) (a.kind == 0)) (!((zaE a)))
noncomputable def zlF (kk : Nat) (a : Int) : Option (Str) :=
 bnd (ix [[67, 79, 85, 78, 84], [83, 85, 77], [77, 73, 78], [77, 65, 88]] a) fun (y1 : Str) =>
 some y1
noncomputable def zoC (kk : Nat) (a : Int) : Option (Str) :=
 bnd (ix [[61], [60, 62], [60], [60, 61], [62], [62, 61]] (wrap .i64 (a - 5))) fun (y1 : Str) =>
 some y1
noncomputable def zmP (kk : Nat) (a : zbZ) : Option (Str) :=
 bnd (okP (zkY a.table)) fun _ =>
 bnd (okP ([116].length + (zb8 a.table).length <= room)) fun _ =>
 bnd (okP ((116 :: (zb8 a.table)).length + [46].length <= room)) fun _ =>
 bnd (okP (zkY a.seq)) fun _ =>
 bnd (okP ((116 :: ((zb8 a.table) ++ [46])).length + (zb8 a.seq).length <= room)) fun _ =>
 some (116 :: (((zb8 a.table) ++ [46]) ++ (zb8 a.seq)))
noncomputable def zkQ (kk : Nat) (a : zbZ) : Option (Str) :=
 sel (
  some []) (
  bnd (okP (zuH a.table)) fun _ =>
  bnd (okP ([116].length + (zb8 a.table).length <= room)) fun _ =>
  bnd (okP ((116 :: (zb8 a.table)).length + [46].length <= room)) fun _ =>
  bnd (okP (zuH a.seq)) fun _ =>
  bnd (okP ((116 :: ((zb8 a.table) ++ [46])).length + (zb8 a.seq).length <= room)) fun _ =>
  some (116 :: (((zb8 a.table) ++ [46]) ++ (zb8 a.seq)))) (!((zdY a)))
noncomputable def zh7 (kk : Nat) : Option ((Sl Str)) :=
 some (Sl.of [[67, 79, 85, 78, 84], [83, 85, 77], [77, 73, 78], [77, 65, 88]])
noncomputable def zh6 (kk : Nat) : Option ((Sl Str)) :=
 some (Sl.of [[61], [60, 62], [60], [60, 61], [62], [62, 61]])
noncomputable def zlB (kk : Nat) (a : Val) : Option (Str) :=
 sel (
  some []) (
  sel (
   bnd (okP ((zuH a.int && (10 : Int) == 10) = true)) fun _ =>
   some (zvV a.int 10)) (
   sel (
    bnd (okP (zyg a.text [39] [39, 39])) fun _ =>
    bnd (okP ([39].length + (zna a.text [39] [39, 39]).length <= room)) fun _ =>
    bnd (okP ((39 :: (zna a.text [39] [39, 39])).length + [39].length <= room)) fun _ =>
    some (39 :: ((zna a.text [39] [39, 39]) ++ [39]))) (
    sel (
     some [84, 82, 85, 69]) (
     some [70, 65, 76, 83, 69]) (a.int == 1)) (a.kind == 1)) (a.kind == 0)) (!((zaE a)))
theorem zet (n : Int) : wrap .u64 n = n % 18446744073709551616 := by
 simp only [wrap, IntKind.bits, IntKind.signed, Bool.false_and, yF, if_false]; rfl
theorem zvd (n : Int) : wrap .u8 n = n % 256 := by
 simp only [wrap, IntKind.bits, IntKind.signed, Bool.false_and, yF, if_false]; rfl
theorem zDZ {k u : Nat} : (zCG k u).length <= k := by
 induction k generalizing u with
 | zero => simp [zCG]
 | succ k ih =>
   rw [zCG]; split
   · simp
   · have := @ih (u / 10); simp; exact this
theorem zDX (a : Int) : (zBp a).length <= 20 := zDZ
theorem zNe (k u : Nat) : zCG (k + 1) u = if u < 10 then [UInt8.ofNat (48 + u)] else zCG k (u / 10) ++ [UInt8.ofNat (48 + u % 10)] := rfl
theorem zNf {k u : Nat} (h : u < 10 ^ k) (hk : 0 < k) : zCG (k + 1) u = zCG k u := by
 rw [zD0 _ _ h hk, zD0 _ _ (by rw [Nat.pow_succ]; omega) YJ]
theorem zM9 {d : Int} (h0 : 0 <= d) (h1 : d < 10) : b2s [(wrap .u8 (wrap .u64 (48 + d)))] = [UInt8.ofNat (48 + d.toNat)] := by
 rw [zet, zvd, Int.emod_eq_of_lt YJ YJ, Int.emod_eq_of_lt YJ YJ]
 simp only [b2s, yR, yr]
 rw [show (48 + d).toNat = 48 + d.toNat by omega]
theorem zNa {a : Int} (h0 : 10 <= a) (h1 : a <= 18446744073709551615) : zBp a = zBp (a / 10) ++ [UInt8.ofNat (48 + (a % 10).toNat)] := by
 unfold zBp
 rw [show (a / 10).toNat = a.toNat / 10 by omega, show (a % 10).toNat = a.toNat % 10 by omega, zNf (k := 19) (u := a.toNat / 10) YJ YJ, zNe 19 a.toNat, if_neg YJ]
theorem zPb {a : Int} (h0 : 0 <= a) (h1 : a < 10) : zBp a = [UInt8.ofNat (48 + a.toNat)] := by
 unfold zBp
 rw [show (20 : Nat) = 19 + 1 from rfl, zCG, if_pos YJ]
theorem zBc {kk sz : Nat} {a : Int} (h : 0 <= a /\ a <= 18446744073709551615 /\ (zBp a).length < sz + 1) (_hk : sz < kk) (_hb : sz + 1 < big) : zoF kk sz a = some (zBp a) := by
 obtain ⟨h0, h1, h2⟩ := h
 unfold zoF
 rw [zjO]
 by_cases hd : a < 10
 · rw [if_pos hd, zM9 h0 hd, zPb h0 hd]
 · rw [if_neg hd]
   have e1 : wrap .u64 (a.tdiv 10) = a / 10 := by
    rw [zet, Int.tdiv_eq_ediv_of_nonneg h0]; omega
   have e2 : a.tmod 10 = a % 10 := Int.tmod_eq_emod_of_nonneg h0
   rw [e1, e2, zM9 YJ YJ]
   have e3 := zNa (show 10 <= a by omega) h1
   rw [e3] at h2
   simp only [yD, yC, yI] at h2
   rw [zar (show 0 <= a / 10 /\ a / 10 <= 18446744073709551615 /\ (zBp (a / 10)).length < sz from ⟨by omega, by omega, by omega⟩), zad]
   rw [zar (by have := zDX (a / 10); unfold room; simp; omega), zad, e3]
theorem zy5 (kk : Nat) (a : Int) (h : zkY a) : zmS kk a = some (zb8 a) := by
 obtain ⟨h1, h2⟩ := h
 unfold zmS zb8
 rw [zjO]
 have hb1 : big = 1152921504606846976 := rfl
 by_cases hn : a < 0
 · rw [if_pos hn, if_pos hn]
   have e : wrap .u64 (0 - wrap .u64 a) = ((a.natAbs : Nat) : Int) := by rw [zet, zet]; omega
   have hl := zDX ((a.natAbs : Nat) : Int)
   rw [e, zar ⟨by omega, by omega, by omega⟩, zad, zar (by unfold room; simp; omega), zad]
   unfold zBp; rw [Int.toNat_natCast]
 · rw [if_neg hn, if_neg hn]
   have e : wrap .u64 a = a := by rw [zet]; omega
   have hl := zDX a
   rw [e, zar ⟨by omega, by omega, by omega⟩, zad]; rfl
theorem ziY (a : Int) : (zb8 a).length <= 21 := by
 unfold zb8; split
 · have := @zDZ 20 a.natAbs; simp; exact this
 · have := @zDZ 20 a.toNat; omega
theorem zO5 (s t : Str) : zuJ (s ++ t) = zuJ s ++ zuJ t := by
 induction s with
 | nil => rfl
 | cons b s ih => simp only [yS, zpA, ih]; split <;> rfl
theorem zzm (s : Str) : (zuJ s).length <= 2 * s.length := by
 induction s with
 | nil => simp [zuJ]
 | cons b s ih => rw [zpA]; split <;> simp <;> omega
theorem zA2 {a : Val} {kk : Nat} (hl : a.text.length <= 255) : ∀ (k i : Nat), i <= a.text.length -> a.text.length - i < k -> zgN a kk k (39 :: zuJ (a.text.take i)) (i : Int) = some (.done (39 :: zuJ a.text, (a.text.length : Int))) := by
 intro k
 have hb1 : big = 1152921504606846976 := rfl
 induction k with
 | zero => intro i _ h; omega
 | succ k ih =>
   intro i h1 h2
   rw [zgN]
   by_cases e : i = a.text.length
   · subst e; rw [YI YJ, zaC, List.take_length]
   · have hi : i < a.text.length := by omega
     have ei := yB hi
     have hlen := zzm (a.text.take i)
     rw [List.length_take] at hlen
     rw [YH YJ, zat, zaF YJ]
     have es : zCk a.text (some (i : Int)) (some ((i + 1 : Nat) : Int)) = some [a.text[i]] := by
      unfold zCk
      simp only [yc, Int.toNat_natCast]
      rw [if_pos ⟨by omega, by omega, by omega, by omega⟩, show i + 1 - i = 1 by omega, zNk ei]
     rw [es, zad, zar (by unfold room; simp; omega), zad, zbE, ei, zad]
     have et : a.text.take (i + 1) = a.text.take i ++ [a.text[i]] := by rw [List.take_add_one, ei]; rfl
     have ih := ih (i + 1) YJ YJ
     rw [et, zO5] at ih
     by_cases hq : a.text[i] = 39
     · rw [hq] at ih ⊢
       rw [show (((39 : UInt8).toNat : Int) == 39) = true from rfl, zat, zar (by unfold room; simp only [yD, yC, yI]; omega), zad]
       rw [<- ih]; congr 1; simp [zuJ]
     · have : ((a.text[i].toNat : Int) == 39) = false := by
        simp; intro e; exact hq (UInt8.toNat_inj.1 (show a.text[i].toNat = 39 by omega))
       rw [this, zaC, <- ih]; congr 1; simp [zuJ, hq]
theorem zBb {kk : Nat} (a : Val) (h : zkY a.int) (hk : 256 < kk) : zoE kk a = some (zdD a) := by
 unfold zoE zdD
 rw [zc2]
 cases hv : zaE a
 · rfl
 · simp only [zat, if_true]
   rw [zcs]
   by_cases h0 : a.kind = 0
   · rw [if_pos h0, if_pos h0, zar h]; rfl
   · rw [if_neg h0, if_neg h0, zcs]
     unfold zaE at hv
     rw [if_neg h0] at hv
     by_cases h2 : a.kind = 2
     · rw [if_pos h2, if_neg (show ¬ a.kind = 1 by omega), zcs]
       split <;> rfl
     · rw [if_neg h2]
       rw [if_neg h2] at hv
       by_cases h1 : a.kind = 1
       · rw [if_pos h1] at hv ⊢
         simp only [yK, YG] at hv
         have hl : a.text.length <= 255 := by omega
         have := zA2 (kk := kk) hl kk 0 YJ YJ
         rw [show (39 :: zuJ (a.text.take 0)) = [39] from rfl, show ((0 : Nat) : Int) = 0 from rfl] at this
         have hlen := zzm a.text
         rw [this, za5]
         simp only
         rw [zar (by unfold room; simp; omega)]; rfl
       · rw [if_neg h1] at hv; cases hv
theorem zx0 (kk : Nat) (a : Int) (h : 0 <= a /\ a <= 3) : zlF kk a = some (nth zde a) := by
 obtain ⟨n, rfl⟩ : ∃ n : Nat, a = n := ⟨a.toNat, by omega⟩
 unfold zlF
 rw [zbE]
 have : n = 0 ∨ n = 1 ∨ n = 2 ∨ n = 3 := by omega
 rcases this with rfl | rfl | rfl | rfl <;> rfl
theorem zA9 (kk : Nat) (a : Int) (h : 5 <= a /\ a <= 10) : zoC kk a = some (opS a) := by
 obtain ⟨n, rfl⟩ : ∃ n : Nat, a = n + 5 := ⟨(a - 5).toNat, by omega⟩
 unfold zoC opS
 rw [show (n : Int) + 5 - 5 = n by omega, zcG YJ YJ, zbE]
 have : n = 0 ∨ n = 1 ∨ n = 2 ∨ n = 3 ∨ n = 4 ∨ n = 5 := by omega
 rcases this with rfl | rfl | rfl | rfl | rfl | rfl <;> rfl
theorem zy2 (kk : Nat) (a : zbZ) (h : zw1 a) : zmP kk a = some (zs9 a) := by
 have h1 := ziY a.table
 have h2 := ziY a.seq
 unfold zmP zs9
 rw [zar h.1, zad, zar (by unfold room; simp; omega), zad, zar (by unfold room; simp; omega), zad, zar h.2, zad, zar (by unfold room; simp; omega), zad]
 simp
theorem zwE (kk : Nat) (a : zbZ) (h : zw1 a) : zkQ kk a = some (zj5 a) := by
 have h1 := ziY a.table
 have h2 := ziY a.seq
 unfold zkQ zj5
 rw [zc2]
 cases zdY a
 · rfl
 · rw [zat, zar (zvW h.1), zad, zar (by unfold room; simp; omega), zad, zar (by unfold room; simp; omega), zad, zar (zvW h.2), zad, zar (by unfold room; simp; omega), zad]
   simp
theorem zpa (kk : Nat) : zh7 kk = some zly := rfl
theorem zo9 (kk : Nat) : zh6 kk = some zgZ := rfl
theorem zxT (kk : Nat) (a : Val) (h : zkY a.int) : zlB kk a = some (zdD a) := by
 unfold zlB zdD
 rw [zc2]
 cases hv : zaE a
 · rfl
 · simp only [zat, if_true]
   rw [zcs]
   by_cases h0 : a.kind = 0
   · rw [if_pos h0, if_pos h0, zar (by rw [zvW h]; rfl)]; rfl
   · rw [if_neg h0, if_neg h0, zcs]
     unfold zaE at hv
     rw [if_neg h0] at hv
     by_cases h1 : a.kind = 1
     · rw [if_pos h1] at hv ⊢
       simp only [yK, YG] at hv
       have hl : a.text.length <= 255 := by omega
       have hc := Lib.count_le a.text [39]
       have he := zzm a.text
       rw [if_pos h1, zar (show zyg a.text [39] [39, 39] from ⟨by unfold lim; omega, by decide, by unfold room; simp; omega⟩), zad, zJR, zar (by unfold room; simp; omega), zad, zar (by unfold room; simp; omega), zad]; rfl
     · rw [if_neg h1, if_neg h1, zcs]
       split <;> rfl
def zvk (a : Sl zaj) : Str := zfc (a.l.map zbI) [42]
noncomputable def zox (c24 : Sl zam) (c25 : Str) (c26 : Int) (c27 : Str) (c28 : Int) (c29 : Bool) (sz kk : Nat) : Option (Str) :=
 sel (
  bnd (okP (c27.length + [42].length <= room)) fun _ =>
  some (c27 ++ [42])) (
  some c27) (c29)
noncomputable def zdx (c18 : Sl zam) (c19 : Str) (c20 : Int) (sz kk : Nat) : Nat -> Str -> Int -> Option (Out (Str) (Str × Int))
 | 0, _, _ => none
 | k + 1, s21, s22 =>
   bnd (ix c18.l c20) fun (y23 : zam) =>
   sel (
    bnd (zox c18 c19 c20 s21 s22 (!(s21 == [])) sz kk) fun (q31 : Str) =>
    bnd (ix y23.factors.l s22) fun (y32 : zaj) =>
    bnd (okP ((zgU y32.atom = true /\ zii y32.atom /\ zby y32.atom < lim /\ 4 * zby y32.atom < sz))) fun _ =>
    bnd (okP (q31.length + (zfK y32.atom).length <= room)) fun _ =>
    sel (
     bnd (okP ((q31 ++ (zfK y32.atom)).length + [94].length <= room)) fun _ =>
     bnd (okP (zkY y32.exp)) fun _ =>
     bnd (okP (((q31 ++ (zfK y32.atom)) ++ [94]).length + (zb8 y32.exp).length <= room)) fun _ =>
     zdx c18 c19 c20 sz kk k (((q31 ++ (zfK y32.atom)) ++ [94]) ++ (zb8 y32.exp)) (wrap .i64 (s22 + 1))) (
     zdx c18 c19 c20 sz kk k (q31 ++ (zfK y32.atom)) (wrap .i64 (s22 + 1))) (y32.exp != 1)) (
    some (.done (s21, s22))) (decide (s22 < (y23.factors.l.length : Int)))
noncomputable def zj7 (c11 : Sl zam) (c12 : Str) (c13 : Int) (c14 : Bool) (sz kk : Nat) : Option (Str) :=
 sel (
  bnd (ix c11.l c13) fun (y15 : zam) =>
  bnd (okP (zkY y15.coeff)) fun _ =>
  some (zb8 y15.coeff)) (
  some []) (c14)
noncomputable def zoy (c4 : Sl zam) (c5 : Str) (c6 : Int) (c7 : Bool) (sz kk : Nat) : Option (Str) :=
 sel (
  bnd (okP (c5.length + [32, 43, 32].length <= room)) fun _ =>
  some (c5 ++ [32, 43, 32])) (
  some c5) (c7)
noncomputable def zfP (c1 : Sl zam) (sz kk : Nat) : Nat -> Str -> Int -> Option (Out (Str) (Str × Int))
 | 0, _, _ => none
 | k + 1, s2, s3 =>
   sel (
    bnd (zoy c1 s2 s3 (decide (0 < s3)) sz kk) fun (q9 : Str) =>
    bnd (ix c1.l s3) fun (y10 : zam) =>
    bnd (zj7 c1 q9 s3 ((y10.coeff != 1) || ((y10.factors.l.length : Int) == 0)) sz kk) fun (q17 : Str) =>
    zgD (zdx c1 q9 s3 sz kk kk q17 0) (fun r => some (.ret r)) fun (q38 : Str × Int) =>
     bnd (okP (q9.length + q38.1.length <= room)) fun _ =>
     zfP c1 sz kk k (q9 ++ q38.1) (wrap .i64 (s3 + 1))) (
    some (.done (s2, s3))) (decide (s3 < (c1.l.length : Int)))
noncomputable def ztr (kk sz : Nat) (a : (Sl zam)) : Option (Str) :=
 sel (
  some [48]) (
  zgD (zfP a sz kk kk [] 0) (fun r => some r) fun (q40 : Str × Int) =>
   some q40.1) ((a.l.length : Int) == 0)
noncomputable def zjL (c24 : Str) (c25 : Int) (c26 : Bool) (c27 : zas) (sz kk : Nat) : Option (Str) :=
 sel (
  bnd (okP (c24.length + [59, 32].length <= room)) fun _ =>
  some (c24 ++ [59, 32])) (
  some c24) (c26)
noncomputable def zcQ (c23 : zas) (sz kk : Nat) : Nat -> Str -> Int -> Option (Out (Str) (Str × Int))
 | 0, _, _ => none
 | k + 1, s21, s22 =>
   sel (
    bnd (zjL s21 s22 (decide (0 < s22)) c23 sz kk) fun (q29 : Str) =>
    bnd (ix c23.items.l s22) fun (y30 : zae) =>
    bnd (okP (zkY y30.value.int)) fun _ =>
    bnd (okP (q29.length + (zdD y30.value).length <= room)) fun _ =>
    bnd (okP ((q29 ++ (zdD y30.value)).length + [58, 32].length <= room)) fun _ =>
    bnd (okP ((zdp y30.ann.l = true /\ zbB y30.ann.l /\ zak y30.ann.l < lim /\ 4 * zak y30.ann.l + 1 < sz))) fun _ =>
    bnd (okP (((q29 ++ (zdD y30.value)) ++ [58, 32]).length + (zcu y30.ann).length <= room)) fun _ =>
    zcQ c23 sz kk k (((q29 ++ (zdD y30.value)) ++ [58, 32]) ++ (zcu y30.ann)) (wrap .i64 (s22 + 1))) (
    some (.done (s21, s22))) (decide (s22 < (c23.items.l.length : Int)))
noncomputable def zlE (kk sz : Nat) (a : zas) : Option (Str) :=
 sel (
  bnd (okP (zw1 a.row)) fun _ =>
  some (zs9 a.row)) (
  sel (
   bnd (a.args.l[0]?) fun (y2 : (Sl zam)) =>
   bnd (okP ((zdp y2.l = true /\ zbB y2.l /\ zak y2.l < lim /\ 4 * zak y2.l + 1 < sz))) fun _ =>
   bnd (okP ([109, 111, 110, 117, 115, 91].length + (zcu y2).length <= room)) fun _ =>
   bnd (okP ((109 :: 111 :: 110 :: 117 :: 115 :: 91 :: (zcu y2)).length + [44, 32].length <= room)) fun _ =>
   bnd (a.args.l[1]?) fun (y6 : (Sl zam)) =>
   bnd (okP ((zdp y6.l = true /\ zbB y6.l /\ zak y6.l < lim /\ 4 * zak y6.l + 1 < sz))) fun _ =>
   bnd (okP ((109 :: 111 :: 110 :: 117 :: 115 :: 91 :: ((zcu y2) ++ [44, 32])).length + (zcu y6).length <= room)) fun _ =>
   bnd (okP ((109 :: 111 :: 110 :: 117 :: 115 :: 91 :: (((zcu y2) ++ [44, 32]) ++ (zcu y6))).length + [93].length <= room)) fun _ =>
   some (109 :: 111 :: 110 :: 117 :: 115 :: 91 :: ((((zcu y2) ++ [44, 32]) ++ (zcu y6)) ++ [93]))) (
   sel (
    bnd (a.args.l[0]?) fun (y10 : (Sl zam)) =>
    bnd (okP ((zdp y10.l = true /\ zbB y10.l /\ zak y10.l < lim /\ 4 * zak y10.l + 1 < sz))) fun _ =>
    bnd (okP ([100, 101, 108, 116, 97, 91].length + (zcu y10).length <= room)) fun _ =>
    bnd (okP ((100 :: 101 :: 108 :: 116 :: 97 :: 91 :: (zcu y10)).length + [93].length <= room)) fun _ =>
    some (100 :: 101 :: 108 :: 116 :: 97 :: 91 :: ((zcu y10) ++ [93]))) (
    sel (
     bnd (a.args.l[0]?) fun (y14 : (Sl zam)) =>
     bnd (okP ((zdp y14.l = true /\ zbB y14.l /\ zak y14.l < lim /\ 4 * zak y14.l + 1 < sz))) fun _ =>
     bnd (okP ([97, 98, 115, 101, 110, 116, 91].length + (zcu y14).length <= room)) fun _ =>
     bnd (okP ((97 :: 98 :: 115 :: 101 :: 110 :: 116 :: 91 :: (zcu y14)).length + [93].length <= room)) fun _ =>
     some (97 :: 98 :: 115 :: 101 :: 110 :: 116 :: 91 :: ((zcu y14) ++ [93]))) (
     bnd (okP (0 <= a.func /\ a.func <= 3)) fun _ =>
     bnd (okP ([116, 101, 115, 116, 91].length + (nth zde a.func).length <= room)) fun _ =>
     bnd (okP ((116 :: 101 :: 115 :: 116 :: 91 :: (nth zde a.func)).length + [123].length <= room)) fun _ =>
     zgD (zcQ a sz kk kk (116 :: 101 :: 115 :: 116 :: 91 :: ((nth zde a.func) ++ [123])) 0) (fun r => some r) fun (q36 : Str × Int) =>
      bnd (okP (q36.1.length + [125, 32].length <= room)) fun _ =>
      bnd (okP (5 <= a.op /\ a.op <= 10)) fun _ =>
      bnd (okP ((q36.1 ++ [125, 32]).length + (opS a.op).length <= room)) fun _ =>
      bnd (okP (((q36.1 ++ [125, 32]) ++ (opS a.op)).length + [32].length <= room)) fun _ =>
      bnd (okP (zkY a.bound.int)) fun _ =>
      bnd (okP ((((q36.1 ++ [125, 32]) ++ (opS a.op)) ++ [32]).length + (zdD a.bound).length <= room)) fun _ =>
      bnd (okP (((((q36.1 ++ [125, 32]) ++ (opS a.op)) ++ [32]) ++ (zdD a.bound)).length + [93].length <= room)) fun _ =>
      some (((((q36.1 ++ [125, 32]) ++ (opS a.op)) ++ [32]) ++ (zdD a.bound)) ++ [93])) (a.kind == 3)) (a.kind == 2)) (a.kind == 1)) (a.kind == 0)
noncomputable def zb5 (c2 : Sl zam) (c3 : Int) (sz kk : Nat) : Nat -> List Str -> Int -> Option (Out (Str) (List Str × Int))
 | 0, _, _ => none
 | k + 1, s1, s4 =>
   sel (
    bnd (ix c2.l s4) fun (y5 : zam) =>
    sel (
     bnd (okP ((zuH y5.coeff && (10 : Int) == 10) = true)) fun _ =>
     bnd (okP ((s1.length + 1) * 16 <= room)) fun _ =>
     zb5 c2 c3 sz kk k (s1 ++ [(zvV y5.coeff 10)]) (wrap .i64 (s4 + 1))) (
     sel (
      bnd (okP (((∀ f ∈ y5.factors.l, zgE f = true /\ zh9 f) /\ zaD y5.factors.l < lim /\ 4 * zaD y5.factors.l + 2 < sz))) fun _ =>
      bnd (okP ((s1.length + 1) * 16 <= room)) fun _ =>
      zb5 c2 c3 sz kk k (s1 ++ [(zvk y5.factors)]) (wrap .i64 (s4 + 1))) (
      bnd (okP ((zuH y5.coeff && (10 : Int) == 10) = true)) fun _ =>
      bnd (okP ((zvV y5.coeff 10).length + [42].length <= room)) fun _ =>
      bnd (okP (((∀ f ∈ y5.factors.l, zgE f = true /\ zh9 f) /\ zaD y5.factors.l < lim /\ 4 * zaD y5.factors.l + 2 < sz))) fun _ =>
      bnd (okP (((zvV y5.coeff 10) ++ [42]).length + (zvk y5.factors).length <= room)) fun _ =>
      bnd (okP ((s1.length + 1) * 16 <= room)) fun _ =>
      zb5 c2 c3 sz kk k (s1 ++ [(((zvV y5.coeff 10) ++ [42]) ++ (zvk y5.factors))]) (wrap .i64 (s4 + 1))) (y5.coeff == 1)) ((y5.factors.l.length : Int) == 0)) (
    some (.done (s1, s4))) (decide (s4 < c3))
noncomputable def zjc (kk sz : Nat) (a : (Sl zam)) : Option (Str) :=
 sel (
  some [48]) (
  zgD (zb5 a (a.l.length : Int) sz kk kk [] 0) (fun r => some r) fun (q15 : List Str × Int) =>
   bnd (okP (zvT (Sl.out q15.1).l [32, 43, 32])) fun _ =>
   some (zon (Sl.out q15.1) [32, 43, 32])) ((a.l.length : Int) == 0)
noncomputable def zbn (c2 : Sl zaj) (c3 : Int) (sz kk : Nat) : Nat -> List Str -> Int -> Option (Out (Str) (List Str × Int))
 | 0, _, _ => none
 | k + 1, s1, s4 =>
   sel (
    bnd (ix c2.l s4) fun (y5 : zaj) =>
    bnd (okP ((zgU y5.atom = true /\ zii y5.atom /\ zby y5.atom < lim /\ 4 * zby y5.atom < sz))) fun _ =>
    sel (
     bnd (okP (zuH y5.exp)) fun _ =>
     bnd (okP ([94].length + (zb8 y5.exp).length <= room)) fun _ =>
     bnd (okP ((zfK y5.atom).length + (94 :: (zb8 y5.exp)).length <= room)) fun _ =>
     bnd (okP ((s1.length + 1) * 16 <= room)) fun _ =>
     zbn c2 c3 sz kk k (s1 ++ [((zfK y5.atom) ++ (94 :: (zb8 y5.exp)))]) (wrap .i64 (s4 + 1))) (
     bnd (okP ((s1.length + 1) * 16 <= room)) fun _ =>
     zbn c2 c3 sz kk k (s1 ++ [(zfK y5.atom)]) (wrap .i64 (s4 + 1))) (y5.exp != 1)) (
    some (.done (s1, s4))) (decide (s4 < c3))
noncomputable def zdX (kk sz : Nat) (a : (Sl zaj)) : Option (Str) :=
 zgD (zbn a (a.l.length : Int) sz kk kk [] 0) (fun r => some r) fun (q12 : List Str × Int) =>
  bnd (okP (zvT (Sl.out q12.1).l [42])) fun _ =>
  some (zon (Sl.out q12.1) [42])
noncomputable def zbR (c19 : Sl zae) (c20 : Int) (c22 : zas) (sz kk : Nat) : Nat -> List Str -> Int -> Option (Out (Str) (List Str × Int))
 | 0, _, _ => none
 | k + 1, s18, s21 =>
   sel (
    bnd (ix c19.l s21) fun (y23 : zae) =>
    bnd (okP (zkY y23.value.int)) fun _ =>
    bnd (okP ((zdD y23.value).length + [58, 32].length <= room)) fun _ =>
    bnd (okP ((zdp y23.ann.l = true /\ zbB y23.ann.l /\ zak y23.ann.l < lim /\ 4 * zak y23.ann.l + 1 < sz))) fun _ =>
    bnd (okP (((zdD y23.value) ++ [58, 32]).length + (zcu y23.ann).length <= room)) fun _ =>
    bnd (okP ((s18.length + 1) * 16 <= room)) fun _ =>
    zbR c19 c20 c22 sz kk k (s18 ++ [(((zdD y23.value) ++ [58, 32]) ++ (zcu y23.ann))]) (wrap .i64 (s21 + 1))) (
    some (.done (s18, s21))) (decide (s21 < c20))
noncomputable def zfF (kk sz : Nat) (a : zas) : Option (Str) :=
 sel (
  bnd (okP (zw1 a.row)) fun _ =>
  some (zj5 a.row)) (
  sel (
   bnd (a.args.l[0]?) fun (y2 : (Sl zam)) =>
   bnd (okP ((zdp y2.l = true /\ zbB y2.l /\ zak y2.l < lim /\ 4 * zak y2.l + 1 < sz))) fun _ =>
   bnd (okP ([109, 111, 110, 117, 115, 91].length + (zcu y2).length <= room)) fun _ =>
   bnd (okP ((109 :: 111 :: 110 :: 117 :: 115 :: 91 :: (zcu y2)).length + [44, 32].length <= room)) fun _ =>
   bnd (a.args.l[1]?) fun (y6 : (Sl zam)) =>
   bnd (okP ((zdp y6.l = true /\ zbB y6.l /\ zak y6.l < lim /\ 4 * zak y6.l + 1 < sz))) fun _ =>
   bnd (okP ((109 :: 111 :: 110 :: 117 :: 115 :: 91 :: ((zcu y2) ++ [44, 32])).length + (zcu y6).length <= room)) fun _ =>
   bnd (okP ((109 :: 111 :: 110 :: 117 :: 115 :: 91 :: (((zcu y2) ++ [44, 32]) ++ (zcu y6))).length + [93].length <= room)) fun _ =>
   some (109 :: 111 :: 110 :: 117 :: 115 :: 91 :: ((((zcu y2) ++ [44, 32]) ++ (zcu y6)) ++ [93]))) (
   sel (
    bnd (a.args.l[0]?) fun (y10 : (Sl zam)) =>
    bnd (okP ((zdp y10.l = true /\ zbB y10.l /\ zak y10.l < lim /\ 4 * zak y10.l + 1 < sz))) fun _ =>
    bnd (okP ([100, 101, 108, 116, 97, 91].length + (zcu y10).length <= room)) fun _ =>
    bnd (okP ((100 :: 101 :: 108 :: 116 :: 97 :: 91 :: (zcu y10)).length + [93].length <= room)) fun _ =>
    some (100 :: 101 :: 108 :: 116 :: 97 :: 91 :: ((zcu y10) ++ [93]))) (
    sel (
     bnd (a.args.l[0]?) fun (y14 : (Sl zam)) =>
     bnd (okP ((zdp y14.l = true /\ zbB y14.l /\ zak y14.l < lim /\ 4 * zak y14.l + 1 < sz))) fun _ =>
     bnd (okP ([97, 98, 115, 101, 110, 116, 91].length + (zcu y14).length <= room)) fun _ =>
     bnd (okP ((97 :: 98 :: 115 :: 101 :: 110 :: 116 :: 91 :: (zcu y14)).length + [93].length <= room)) fun _ =>
     some (97 :: 98 :: 115 :: 101 :: 110 :: 116 :: 91 :: ((zcu y14) ++ [93]))) (
     zgD (zbR a.items (a.items.l.length : Int) a sz kk kk [] 0) (fun r => some r) fun (q29 : List Str × Int) =>
      bnd (ix (zly).l a.func) fun (y30 : Str) =>
      bnd (okP ([116, 101, 115, 116, 91].length + y30.length <= room)) fun _ =>
      bnd (okP ((116 :: 101 :: 115 :: 116 :: 91 :: y30).length + [123].length <= room)) fun _ =>
      bnd (okP (zvT (Sl.out q29.1).l [59, 32])) fun _ =>
      bnd (okP ((116 :: 101 :: 115 :: 116 :: 91 :: (y30 ++ [123])).length + (zon (Sl.out q29.1) [59, 32]).length <= room)) fun _ =>
      bnd (okP ((116 :: 101 :: 115 :: 116 :: 91 :: ((y30 ++ [123]) ++ (zon (Sl.out q29.1) [59, 32]))).length + [125, 32].length <= room)) fun _ =>
      bnd (ix (zgZ).l (wrap .i64 (a.op - 5))) fun (y36 : Str) =>
      bnd (okP ((116 :: 101 :: 115 :: 116 :: 91 :: (((y30 ++ [123]) ++ (zon (Sl.out q29.1) [59, 32])) ++ [125, 32])).length + y36.length <= room)) fun _ =>
      bnd (okP ((116 :: 101 :: 115 :: 116 :: 91 :: ((((y30 ++ [123]) ++ (zon (Sl.out q29.1) [59, 32])) ++ [125, 32]) ++ y36)).length + [32].length <= room)) fun _ =>
      bnd (okP (zkY a.bound.int)) fun _ =>
      bnd (okP ((116 :: 101 :: 115 :: 116 :: 91 :: (((((y30 ++ [123]) ++ (zon (Sl.out q29.1) [59, 32])) ++ [125, 32]) ++ y36) ++ [32])).length + (zdD a.bound).length <= room)) fun _ =>
      bnd (okP ((116 :: 101 :: 115 :: 116 :: 91 :: ((((((y30 ++ [123]) ++ (zon (Sl.out q29.1) [59, 32])) ++ [125, 32]) ++ y36) ++ [32]) ++ (zdD a.bound))).length + [93].length <= room)) fun _ =>
      some (116 :: 101 :: 115 :: 116 :: 91 :: (((((((y30 ++ [123]) ++ (zon (Sl.out q29.1) [59, 32])) ++ [125, 32]) ++ y36) ++ [32]) ++ (zdD a.bound)) ++ [93]))) (a.kind == 3)) (a.kind == 2)) (a.kind == 1)) (a.kind == 0)
end Go.Ev
namespace Go.Ev
def jl (c : Nat) : List Str -> Nat
 | [] => 0
 | x :: l => x.length + c + jl c l
theorem zsg {c d : Nat} (h : c <= d) (l : List Str) : jl c l <= jl d l := by
 induction l with
 | nil => exact yP _
 | cons x l ih => simp only [jl]; omega
theorem zlv (l : List Str) (sep : Str) : (zfc l sep).length <= jl sep.length l := by
 induction l with
 | nil => simp [zsf, jl]
 | cons x l ih => cases l with
   | nil => rw [zis]; simp only [jl]; omega
   | cons y l => rw [zjr]; simp only [yD, jl] at ih ⊢; omega
theorem zm1 (v : Val) : (zdD v).length <= 2 * v.text.length + 22 := by
 have h1 := ziY v.int
 have h2 := zzm v.text
 unfold zdD
 split
 · split
   · omega
   · split
     · unfold zue; simp; omega
     · split <;> simp [zJL, zCm]
 · simp
theorem zKu (r : zbZ) : (zj5 r).length <= 44 := by
 have h1 := ziY r.table
 have h2 := ziY r.seq
 unfold zj5; split <;> simp; omega
theorem zMr {l : List Str} {n : Int} (h : ∀ x ∈ l, x.length <= 5) : (nth l n).length <= 5 := by
 unfold nth
 cases e : l[n.toNat]? with
 | none => simp
 | some x => exact h x (yL e)
theorem zMR (n : Int) : (nth zde n).length <= 5 := zMr (by decide)
theorem zMl (n : Int) : (nth zc5 n).length <= 5 := zMr (by decide)
theorem zG9 {l : List Str} {b : Bool} {n : Nat} (h : jl 3 l <= n) : (txA l b).length <= n + 1 := by
 unfold txA
 split
 · have := zlv l zma
   rw [show zma.length = 3 from rfl] at this; omega
 · simp
theorem zPN {c : Nat} {l : List Str} (i : Nat) : ((l[i]?).getD []).length <= jl c l := by
 induction l generalizing i with
 | nil => simp [jl]
 | cons x l ih => cases i with
   | zero => simp [jl]; omega
   | succ i => have := ih i; simp only [yX, jl]; omega
theorem zLu (c : Int) (f : Fl) (fs : List zaj) : zgr (.mk c ⟨f, fs⟩) = if fs.isEmpty then zb8 c else if c = 1 then zfc (fs.map zbI) [42] else zb8 c ++ 42 :: zfc (fs.map zbI) [42] := by
 simp only [zgr, zgt]
 first | done | rfl
theorem zG7 (a : zas) (e : Int) : zbI (.mk a e) = if e = 1 then zfK a else zfK a ++ 94 :: zb8 e := by
 simp only [zbI]
 first | done | rfl
mutual
theorem zMu : ∀ x : zam, (zgr x).length <= 64 * zcH x
 | .mk c ⟨f, fs⟩ => by
   have h := zpw fs
   have hj := zlv (fs.map zbI) [42]
   have hm := zsg (show 1 <= 3 by omega) (fs.map zbI)
   have hi := ziY c
   rw [zgt] at h
   rw [show ([42] : Str).length = 1 from rfl] at hj
   rw [zLu, zdq]
   simp only [zam.factors]
   split
   · omega
   · split
     · omega
     · simp only [yD, yC]; omega
theorem zpw : ∀ l : List zaj, jl 3 (zik l) <= 64 * zaD l
 | [] => by simp [zik, jl]
 | x :: xs => by
   have h1 := zMv x
   have h2 := zpw xs
   simp only [zik, jl, zaD]; omega
theorem zMv : ∀ x : zaj, (zbI x).length <= 64 * zc8 x
 | .mk a e => by
   have h1 := zAh a
   have hi := ziY e
   rw [zG7, zcB]
   simp only [zaj.atom]
   split
   · omega
   · simp only [yD, yC]; omega
theorem zAh : ∀ x : zas, (zfK x).length <= 64 * zby x
 | .mk k r ⟨f1, as⟩ f ⟨f2, is⟩ o b => by
   have h1 := zMw as
   have h2 := zvP is
   have h3 := zKu r
   have h4 := zm1 b
   have h5 := zMR f
   have h6 := zMl (o - 5)
   rw [ziR] at h1
   rw [zij] at h2
   have g0 := zPN (c := 0) (l := as.map zcu) 0
   have g1 := zPN (c := 0) (l := as.map zcu) 1
   have gs : (((as.map zcu)[0]?).getD []).length + (((as.map zcu)[1]?).getD []).length <= jl 0 (as.map zcu) := by
    match as.map zcu with
    | [] => simp [jl]
    | [x] => simp [jl]
    | x :: y :: l => simp only [yH, yX, yc, jl]; omega
   have hj := zlv (is.map zgs) zl9
   have hm := zsg (show 2 <= 3 by omega) (is.map zgs)
   rw [show zl9.length = 2 from rfl] at hj
   rw [zzE, zcr]
   simp only [zas.args, zas.items, zas.bound]
   split
   · omega
   · split
     · simp only [yD, zfa, zrn, yC, yI]; omega
     · split
       · simp only [yD, zfb, yC, yI]; omega
       · split
         · simp only [yD, zc3, yC, yI]; omega
         · simp only [yD, zji, zlJ, yC, yI]; omega
theorem zMw : ∀ l : List (Sl zam), jl 0 (zrm l) <= 64 * zcw l
 | [] => by simp [zrm, jl]
 | ⟨f, x⟩ :: xs => by
   have h1 := ztc x
   have h2 := zMw xs
   have h3 := zG9 (b := !x.isEmpty) h1
   simp only [zrm, jl, zcw]; omega
theorem ztc : ∀ l : List zam, jl 3 (zl8 l) <= 64 * zak l
 | [] => by simp [zl8, jl]
 | x :: xs => by
   have h1 := zMu x
   have h2 := ztc xs
   simp only [zl8, jl, zak]; omega
theorem zvP : ∀ l : List zae, jl 3 (zoK l) <= 64 * zbb l
 | [] => by simp [zoK, jl]
 | x :: xs => by
   have h1 := zQH x
   have h2 := zvP xs
   simp only [zoK, jl, zbb]; omega
theorem zQH : ∀ x : zae, (zgs x).length <= 64 * zei x
 | .mk v ⟨f, l⟩ => by
   have h1 := ztc l
   have h2 := zm1 v
   have h3 := zG9 (b := !l.isEmpty) h1
   simp only [zgs, yD, zro, yC, yI, zei]; omega
end
theorem zpx (a : Sl zam) : (zcu a).length <= 64 * zak a.l + 1 := zG9 (ztc a.l)
theorem zst {α R : Type} {L : Nat -> List Str -> Int -> Option (Out R (List Str × Int))} {xs : List α} {k : Nat} (g : α -> Str)
 (hend : ∀ k s, L (k + 1) s xs.length = some (.done (s, (xs.length : Int))))
 (hstep : ∀ k (i : Nat) x (l : List Str), xs[i]? = some x -> l.length = i -> L (k + 1) l (i : Int) = L k (l ++ [g x]) ((i + 1 : Nat) : Int)) (hk : xs.length < k) :
 L k [] 0 = some (.done (xs.map g, (xs.length : Int))) := by
 have := zpy (L := L) (n := xs.length) (k := k) (fun i => (xs.take i).map g) [] hend (fun k i hi => by
  have ex := yB hi
  rw [hstep k i _ _ ex (by rw [yV, List.length_take]; omega), List.take_add_one, ex, Option.toList_some, List.map_append]; rfl) rfl hk
 rw [List.take_length] at this; exact this
theorem zCz (l : List Str) (x sep : Str) : zfc (l ++ [x]) sep = if l.isEmpty then x else zfc l sep ++ (sep ++ x) := by
 induction l with
 | nil => simp [zis]
 | cons y l ih => cases l with
   | nil => simp [zjr, zis]
   | cons z l =>
     simp only [yS, zjr, List.isEmpty_cons, yF, if_false] at ih ⊢
     rw [ih]; simp
theorem zHJ {l : List Str} (sep : Str) (h : ∀ x ∈ l, x ≠ []) : (zfc l sep == []) = l.isEmpty := by
 cases l with
 | nil => rfl
 | cons x l =>
   have hx := h x yQ
   have := zvS sep h
   cases e : zfc (x :: l) sep with
   | nil => rw [e] at this; simp at this
   | cons => rfl
theorem zMD (c : Nat) (a b : List Str) : jl c (a ++ b) = jl c a + jl c b := by
 induction a with
 | nil => simp [jl]
 | cons x a ih => simp only [yS, jl, ih]; omega
theorem zQI {c : Nat} (l : List Str) (i : Nat) : jl c (l.take i) <= jl c l := by
 have := zMD c (l.take i) (l.drop i)
 rw [List.take_append_drop] at this; omega
theorem zDH {c : Nat} {l : List Str} {i : Nat} {x : Str} (h : l[i]? = some x) : jl c (l.take i) + x.length + c <= jl c l := by
 have h1 := zQI (c := c) l (i + 1)
 rw [List.take_add_one, h, zMD] at h1
 simp only [Option.toList_some, jl] at h1; omega
theorem zEW {α R : Type} {L : Nat -> Str -> Int -> Option (Out R (Str × Int))} {xs : List α} {k : Nat} (g : α -> Str) (sep base : Str)
 (hend : ∀ k s, L (k + 1) s xs.length = some (.done (s, (xs.length : Int))))
 (hstep : ∀ k (i : Nat) x (s : Str), xs[i]? = some x -> s.length <= base.length + jl sep.length ((xs.take i).map g) -> L (k + 1) s (i : Int) = L k (if i = 0 then s ++ g x else s ++ (sep ++ g x)) ((i + 1 : Nat) : Int)) (hk : xs.length < k) :
 L k base 0 = some (.done (base ++ zfc (xs.map g) sep, (xs.length : Int))) := by
 have := zpy (L := L) (n := xs.length) (k := k) (fun i => base ++ zfc ((xs.take i).map g) sep) base hend (fun k i hi => by
  have ex := yB hi
  have hl := zlv ((xs.take i).map g) sep
  rw [hstep k i _ _ ex (by rw [yD]; omega)]
  congr 1
  rw [List.take_add_one, ex, Option.toList_some, List.map_append, yR, yr, zCz]
  by_cases h0 : i = 0
  · subst h0; simp [zsf]
  · rw [if_neg h0, if_neg (by rw [List.isEmpty_iff]; intro e; have := congrArg List.length e; rw [yV, List.length_take, yI] at this; omega), yT]) (by simp [zsf]) hk
 rw [List.take_length] at this; exact this
theorem zJE {α R : Type} {L : Nat -> Str -> Int -> Option (Out R (Str × Int))} {xs : List α} {k : Nat} (g : α -> Str) (sep base : Str) (hg : ∀ x ∈ xs, g x ≠ [])
 (hend : ∀ k s, L (k + 1) s xs.length = some (.done (s, (xs.length : Int))))
 (hstep : ∀ k (i : Nat) x (s : Str), xs[i]? = some x -> s.length <= base.length + sep.length + jl sep.length ((xs.take i).map g) -> L (k + 1) s (i : Int) = L k (if s == [] then s ++ g x else s ++ (sep ++ g x)) ((i + 1 : Nat) : Int)) (hk : xs.length < k) :
 L k base 0 = some (.done (zfc ((if base == [] then [] else [base]) ++ xs.map g) sep, (xs.length : Int))) := by
 generalize hp : (if base == [] then ([] : List Str) else [base]) = pre
 have hpl : jl sep.length pre <= base.length + sep.length := by
  rw [<- hp]; split
  · simp [jl]
  · simp only [jl]; omega
 have hpre : ∀ x ∈ pre, x ≠ [] := by
  rw [<- hp]; split
  · simp
  · rename_i h; intro x hx; rw [List.mem_singleton] at hx; subst hx; simpa using h
 have h0 : zfc (pre ++ (xs.take 0).map g) sep = base := by
  rw [<- hp]; split
  · rename_i h; simp at h; simp [h, zsf]
  · simp [zis]
 have := zpy (L := L) (n := xs.length) (k := k) (fun i => zfc (pre ++ (xs.take i).map g) sep) base hend (fun k i hi => by
  have ex := yB hi
  have hl := zlv (pre ++ (xs.take i).map g) sep
  rw [zMD] at hl
  rw [hstep k i _ _ ex YJ]
  congr 1
  have hall : ∀ x ∈ pre ++ (xs.take i).map g, x ≠ [] := by
   intro x hx
   rcases yu.1 hx with hx | hx
   · exact hpre x hx
   · obtain ⟨y, hy, rfl⟩ := YC.1 hx; exact hg y (List.mem_of_mem_take hy)
  rw [zHJ sep hall, List.take_add_one, ex, Option.toList_some, List.map_append, yR, yr, <- yT pre, zCz]
  cases e : (pre ++ (xs.take i).map g).isEmpty
  · simp
  · simp only [if_true]
    rw [List.isEmpty_iff] at e; rw [e]; simp [zsf]) h0 hk
 rw [List.take_length] at this; exact this
theorem zIA {f : zaj} (h : zgE f = true) (hw : zh9 f) : zgU f.atom = true /\ zii f.atom /\ zkY f.exp := by
 rw [ziP] at h
 simp only [yK] at h
 have hw := (zm5 _).1 hw
 exact ⟨h.2, hw.1, hw.2⟩
theorem zEU {f : zaj} (h : zgE f = true) : zbI f ≠ [] := by
 rw [ziP] at h
 simp only [yK] at h
 obtain ⟨b, l, e, _⟩ := zux h.2
 rw [zk9, e]; split <;> simp
theorem zC2 {t : zam} (h : zvi t = true) (hw : zrV t) : (∀ f ∈ t.factors.l, zgE f = true /\ zh9 f) /\ zkY t.coeff /\ 1 <= t.coeff := by
 rw [zp0] at h
 simp only [yK, Bool.not_eq_true', decide_eq_false_iff_not] at h
 have hw := (zrU _).1 hw
 have hf := h.1.2
 rw [zoa] at hf
 exact ⟨fun f hm => ⟨yl.1 hf f hm, (zpX _).1 hw.2 f hm⟩, hw.1, by omega⟩
theorem zQJ (n : Int) (h : zkY n) : zb8 n ≠ [] := (zxl h).2
theorem okr {n : Nat} (h : n <= 140737488355328) : okP (n <= room) = some () := zar h
theorem zgR : lim = 4294967281 := rfl
theorem zAU {c18 : Sl zam} {c19 : Str} {c20 : Nat} {t : zam} {sz kk k : Nat} {t0 : Str} (ht : c18.l[c20]? = some t) (hv : zvi t = true) (hw : zrV t) (h1 : zaD t.factors.l < lim) (h2 : 4 * zaD t.factors.l < sz) (h3 : t0.length <= 21) (hk : t.factors.l.length < k) :
 zdx c18 c19 c20 sz kk k t0 0 = some (.done (zfc ((if t0 == [] then [] else [t0]) ++ t.factors.l.map zbI) [42], (t.factors.l.length : Int))) := by
 obtain ⟨hp, _, _⟩ := zC2 hv hw
 have hlen := zpw t.factors.l
 rw [zgt] at hlen
 have hn := zbO t.factors.l
 rw [zgR] at h1
 refine zJE (xs := t.factors.l) (L := zdx c18 c19 c20 sz kk) zbI [42] t0 (fun x hx => zEU (hp x hx).1) (fun k s => ?_) (fun k i x s hx hs => ?_) hk
 · simp [zdx, zbE, ht]
 · have hi := (yW.1 hx).1
   have hm := yL hx
   obtain ⟨p1, p2, p3⟩ := zIA (hp x hm).1 (hp x hm).2
   have hsz := zcS hx
   have hsz2 := zcB x
   have hla := zAh x.atom
   have hit := ziY x.exp
   have hj := zDH (c := 3) (l := t.factors.l.map zbI) (zav hx zbI)
   have hjm := zsg (show 1 <= 3 by omega) ((t.factors.l.take i).map zbI)
   rw [<- List.map_take] at hj
   rw [show ([42] : Str).length = 1 from rfl] at hs
   have hb1 : big = 1152921504606846976 := rfl
   simp only [zdx, zbE, ht, zad, zox, hx]
   rw [YH (show (i : Int) < t.factors.l.length by omega), zat, zc2, zaF YJ]
   have key : ∀ u : Str, u.length <= 140000000000000 -> (bnd (okP (zgU x.atom = true /\ zii x.atom /\ zby x.atom < lim /\ 4 * zby x.atom < sz)) fun _ =>
    bnd (okP (u.length + (zfK x.atom).length <= room)) fun _ =>
    sel (bnd (okP ((u ++ zfK x.atom).length + [94].length <= room)) fun _ =>
     bnd (okP (zkY x.exp)) fun _ =>
     bnd (okP ((u ++ zfK x.atom ++ [94]).length + (zb8 x.exp).length <= room)) fun _ =>
     zdx c18 c19 c20 sz kk k (u ++ zfK x.atom ++ [94] ++ zb8 x.exp) ((i + 1 : Nat) : Int))
    (zdx c18 c19 c20 sz kk k (u ++ zfK x.atom) ((i + 1 : Nat) : Int)) (x.exp != 1)) = zdx c18 c19 c20 sz kk k (u ++ zbI x) ((i + 1 : Nat) : Int) := by
    intro u hu
    rw [zar ⟨p1, p2, by rw [zgR]; omega, by omega⟩, zad, okr YJ, zad, okr (by simp only [yD, yC, yI]; omega), zad, zar p3, zad, okr (by simp only [yD, yC, yI]; omega), zad, zw9, zk9]
    split
    · rfl
    · simp
   cases e : (s == [])
   · rw [zaC, okr (by simp only [yC, yI]; omega), zad, zad, key _ (by simp only [yD, yC, yI]; omega)]
     simp
   · rw [zat, zad, key _ YJ]; simp
theorem zAV {a : Sl zam} {sz kk k : Nat} (hv : zdp a.l = true) (hw : zbB a.l) (h1 : zak a.l < lim) (h2 : 4 * zak a.l < sz) (hk : a.l.length < k) (hkk : sz < kk) :
 zfP a sz kk k [] 0 = some (.done (zfc (a.l.map zgr) zma, (a.l.length : Int))) := by
 have hlen := ztc a.l
 rw [zuw] at hlen
 have hn := zb4 a.l
 rw [zpk] at hv
 rw [zgR] at h1
 refine zEW (xs := a.l) (L := zfP a sz kk) zgr zma [] (fun k s => by simp [zfP]) (fun k i x s hx hs => ?_) hk
 have hi := (yW.1 hx).1
 have hm := yL hx
 have hvx := yl.1 hv x hm
 have hwx := (zpV _).1 hw x hm
 obtain ⟨p1, p2, p3⟩ := zC2 hvx hwx
 have hsz := zdk hx
 have hsz2 := zdq x
 have hsz3 := zbO x.factors.l
 have hlt := zMu x
 have hit := ziY x.coeff
 have hj := zDH (c := 3) (l := a.l.map zgr) (zav hx zgr)
 rw [<- List.map_take] at hj
 rw [show zma.length = 3 from rfl] at hs
 simp only [yI] at hs
 have hb1 : big = 1152921504606846976 := rfl
 simp only [zfP, zoy, zbE, hx]
 rw [YH (show (i : Int) < a.l.length by omega), zat, zaF YJ]
 have hJ2 : ∀ u : Str, zj7 a u (i : Int) ((x.coeff != 1) || ((x.factors.l.length : Int) == 0)) sz kk = some (if x.coeff = 1 /\ x.factors.l ≠ [] then [] else zb8 x.coeff) := by
  intro u
  unfold zj7
  rw [zbE, hx, zad, zar p2, zad]
  by_cases hc : x.coeff = 1
  · by_cases hf : x.factors.l = []
    · rw [if_neg (fun e => e.2 hf), hf]; simp
    · have : ((x.factors.l.length : Int) == 0) = false := by
       simp; exact hf
      rw [if_pos ⟨hc, hf⟩, this, hc]; rfl
  · rw [if_neg (fun e => hc e.1), show (x.coeff != 1) = true by simpa using hc]; rfl
 have htx : zfc ((if (if x.coeff = 1 /\ x.factors.l ≠ [] then ([] : Str) else zb8 x.coeff) == [] then [] else [if x.coeff = 1 /\ x.factors.l ≠ [] then [] else zb8 x.coeff]) ++ x.factors.l.map zbI) [42] = zgr x := by
  rw [zpm]
  by_cases hc : x.coeff = 1 /\ x.factors.l ≠ []
  · simp only [if_pos hc]
    have : x.factors.l.isEmpty = false := by
     cases e : x.factors.l with
     | nil => exact absurd e hc.2
     | cons => rfl
    rw [this, if_pos hc.1]; rfl
  · simp only [if_neg hc]
    have hne := zQJ x.coeff p2
    rw [show (zb8 x.coeff == []) = false by simpa using hne, if_neg (by decide)]
    cases e : x.factors.l with
    | nil => simp [zis]
    | cons f l =>
      have : ¬ x.coeff = 1 := fun h => hc ⟨h, by rw [e]; simp⟩
      simp only [List.isEmpty_cons, yF, if_false, if_neg this, yR, yS, yZ, zjr]
 have key : ∀ u : Str, u.length <= 140000000000000 -> (bnd (zj7 a u (i : Int) ((x.coeff != 1) || ((x.factors.l.length : Int) == 0)) sz kk) fun q17 =>
  zgD (zdx a u (i : Int) sz kk kk q17 0) (fun r => some (.ret r)) fun q38 =>
   bnd (okP (u.length + q38.1.length <= room)) fun _ => zfP a sz kk k (u ++ q38.1) ((i + 1 : Nat) : Int)) = zfP a sz kk k (u ++ zgr x) ((i + 1 : Nat) : Int) := by
  intro u hu
  rw [hJ2 u, zad, zAU hx hvx hwx (by rw [zgR]; omega) YJ (by split; simp; exact hit) YJ, za5]
  simp only [htx]
  rw [okr YJ, zad]
 by_cases h0 : i = 0
 · subst h0
   rw [if_pos rfl, show decide ((0 : Int) < ((0 : Nat) : Int)) = false from rfl, zaC, zad, zad, key s YJ]
 · rw [if_neg h0, YH (show (0 : Int) < (i : Int) by omega), zat, okr (by simp only [yC, yI]; omega), zad, zad, zad, key _ (by simp only [yD, yC, yI]; omega)]
   rw [show ([32, 43, 32] : Str) = zma from rfl, yT]
theorem zEr {kk sz : Nat} {a : Sl zam} (h : zdp a.l = true /\ zbB a.l /\ zak a.l < lim /\ 4 * zak a.l + 1 < sz + 1) (hk : sz < kk) (hb : sz + 1 < big) : ztr kk sz a = some (zcu a) := by
 obtain ⟨hv, hw, h1, h2⟩ := h
 have hn := zb4 a.l
 unfold ztr
 rw [zcs, zC7]
 by_cases he : (a.l.length : Int) = 0
 · have : a.l = [] := ym.1 YJ
   rw [if_pos he, this]; rfl
 · have : a.l.isEmpty = false := by
    cases e : a.l with
    | nil => rw [e] at he; exact absurd rfl he
    | cons => rfl
   rw [if_neg he, this, zAV hv hw h1 YJ YJ hk, za5]; rfl
theorem zrZ {x : zas} (hv : zgU x = true) (hw : zii x) (hk : x.kind ≠ 0) {a : Sl zam} (ha : a ∈ x.args.l) : zdp a.l = true /\ zbB a.l /\ zak a.l + 1 <= zcw x.args.l := by
 have hw' := (zjo _).1 hw
 refine ⟨(zp1 hv hk).1 a ha, (zw2 _).1 hw'.2.2.1 a ha, ?_⟩
 obtain ⟨i, h⟩ := List.getElem?_of_mem ha
 exact zfQ h
theorem zIz {x : zas} (hv : zgU x = true) (hw : zii x) (hk : x.kind ≠ 0) {a : zae} (ha : a ∈ x.items.l) : zdp a.ann.l = true /\ zbB a.ann.l /\ zlH a.value /\ zei a + 1 <= zbb x.items.l := by
 have hw' := (zjo _).1 hw
 have hi := (zrW _).1 ((zpW _).1 hw'.2.2.2.2.1 a ha)
 refine ⟨(zp1 hv hk).2 a ha, hi.2, hi.1, ?_⟩
 obtain ⟨i, h⟩ := List.getElem?_of_mem ha
 exact zil h
theorem zJu {x : zas} (hv : zgU x = true) (hk : x.kind = 1) : ∃ a b, x.args.l = [a, b] := by
 rw [zmv, if_neg YJ, if_pos hk] at hv
 unfold k1B at hv
 simp only [yK, beq_iff_eq] at hv
 exact zLy hv.2.1.1
theorem zzw {x : zas} (hv : zgU x = true) (hk : x.kind = 2 ∨ x.kind = 3) : ∃ a, x.args.l = [a] := by
 rw [zmv] at hv
 rcases hk with hk | hk
 · rw [if_neg YJ, if_neg YJ, if_pos hk] at hv
   unfold k2B at hv
   simp only [yK, beq_iff_eq] at hv
   exact zrq hv.2.1.1
 · rw [if_neg YJ, if_neg YJ, if_neg YJ, if_pos hk] at hv
   unfold k3B at hv
   simp only [yK, beq_iff_eq] at hv
   exact zrq hv.2.1.1
theorem zCi {x : zas} (hv : zgU x = true) (h0 : x.kind ≠ 0) (h1 : x.kind ≠ 1) (h2 : x.kind ≠ 2) (h3 : x.kind ≠ 3) : x.kind = 4 /\ 0 <= x.func /\ x.func <= 3 /\ 5 <= x.op /\ x.op <= 10 := by
 rcases zxk hv with h | h | h | h | h
 · exact absurd h h0
 · exact absurd h h1
 · exact absurd h h2
 · exact absurd h h3
 · rw [zmv, if_neg YJ, if_neg YJ, if_neg YJ, if_neg YJ, if_pos h] at hv
   unfold k4B at hv
   simp only [yK] at hv
   obtain ⟨a, b, c, d, _⟩ := zAj hv.2.1.1.2
   exact ⟨h, a, b, c, d⟩
theorem zLV {x : zas} (hv : zgU x = true) (hk : x.kind = 0) : zdY x.row = true := by
 rw [zmv, if_pos hk] at hv
 simp only [yK] at hv
 exact hv.1.1
theorem zu0 {x : zas} {sz kk k : Nat} {base : Str} (hv : zgU x = true) (hw : zii x) (hk0 : x.kind ≠ 0) (h1 : zby x < lim) (h2 : 4 * zby x < sz + 1) (hb : base.length <= 20) (hk : x.items.l.length < k) :
 zcQ x sz kk k base 0 = some (.done (base ++ zfc (x.items.l.map zgs) zl9, (x.items.l.length : Int))) := by
 have hlen := zvP x.items.l
 rw [zij] at hlen
 have hz := zcr x
 have hn := zcA x.items.l
 rw [zgR] at h1
 refine zEW (xs := x.items.l) (L := zcQ x sz kk) zgs zl9 base (fun k s => by simp [zcQ]) (fun k i w s hx hs => ?_) hk
 have hi := (yW.1 hx).1
 have hm := yL hx
 obtain ⟨p1, p2, p3, p4⟩ := zIz hv hw hk0 hm
 have hsz := zjp w
 have hl1 := zm1 w.value
 have hl2 := zpx w.ann
 have hj := zDH (c := 3) (l := x.items.l.map zgs) (zav hx zgs)
 have hjm := zsg (show 2 <= 3 by omega) ((x.items.l.take i).map zgs)
 rw [<- List.map_take] at hj
 rw [show zl9.length = 2 from rfl] at hs
 have hb1 : big = 1152921504606846976 := rfl
 simp only [zcQ, zjL, zbE, hx]
 rw [YH (show (i : Int) < x.items.l.length by omega), zat, zaF YJ]
 have key : ∀ u : Str, u.length <= 140000000000000 -> (bnd (some w) fun y30 => bnd (okP (zkY y30.value.int)) fun _ =>
  bnd (okP (u.length + (zdD y30.value).length <= room)) fun _ =>
  bnd (okP ((u ++ zdD y30.value).length + [58, 32].length <= room)) fun _ =>
  bnd (okP (zdp y30.ann.l = true /\ zbB y30.ann.l /\ zak y30.ann.l < lim /\ 4 * zak y30.ann.l + 1 < sz)) fun _ =>
  bnd (okP ((u ++ zdD y30.value ++ [58, 32]).length + (zcu y30.ann).length <= room)) fun _ =>
  zcQ x sz kk k (u ++ zdD y30.value ++ [58, 32] ++ zcu y30.ann) ((i + 1 : Nat) : Int)) = zcQ x sz kk k (u ++ zgs w) ((i + 1 : Nat) : Int) := by
  intro u hu
  rw [zad, zar p3.2, zad, okr YJ, zad, okr (by simp only [yD, yC, yI]; omega), zad, zar ⟨p1, p2, by rw [zgR]; omega, by omega⟩, zad,
   okr (by simp only [yD, yC, yI]; omega), zad, zm8]
  congr 1
  simp [zro]
 by_cases h0 : i = 0
 · subst h0
   rw [if_pos rfl, show decide ((0 : Int) < ((0 : Nat) : Int)) = false from rfl, zaC]
   exact key s YJ
 · rw [if_neg h0, YH (show (0 : Int) < (i : Int) by omega), zat, okr (by simp only [yC, yI]; omega), zad, zad (s ++ [59, 32]), key _ (by simp only [yD, yC, yI]; omega)]
   rw [show ([59, 32] : Str) = zl9 from rfl, yT]
theorem zDj {r : zbZ} (h : zdY r = true) : zs9 r = zj5 r := by unfold zs9 zj5; rw [if_pos h]
theorem zxZ {kk sz : Nat} {a : zas} (h : zgU a = true /\ zii a /\ zby a < lim /\ 4 * zby a < sz + 1) (hk : sz < kk) (hb : sz + 1 < big) : zlE kk sz a = some (zfK a) := by
 obtain ⟨hv, hw, h1, h2⟩ := h
 have hz := zcr a
 have hw' := (zjo _).1 hw
 have hn := zcA a.items.l
 have hlim := zgR
 have hla := zAh a
 unfold zlE
 rw [zvl, zcs]
 by_cases c0 : a.kind = 0
 · rw [if_pos c0, if_pos c0, zar hw'.2.1, zad, zDj (zLV hv c0)]
 rw [if_neg c0, if_neg c0, zcs]
 by_cases c1 : a.kind = 1
 · obtain ⟨x, y, e⟩ := zJu hv c1
   obtain ⟨p1, p2, p3⟩ := zrZ hv hw c0 (a := x) (by rw [e]; simp)
   obtain ⟨q1, q2, q3⟩ := zrZ hv hw c0 (a := y) (by rw [e]; simp)
   have l1 := zpx x
   have l2 := zpx y
   rw [if_pos c1, if_pos c1, e]
   simp only [yH, yX, zad, yR, yr, yc]
   rw [zar ⟨p1, p2, by omega, by omega⟩, zad, okr (by simp only [yD, yC, yI]; omega), zad, okr (by simp only [yD, yC, yI]; omega), zad,
    zar ⟨q1, q2, by omega, by omega⟩, zad, okr (by simp only [yD, yC, yI]; omega), zad, okr (by simp only [yD, yC, yI]; omega), zad]
   simp [zfa, zrn]
 rw [if_neg c1, if_neg c1, zcs]
 by_cases c2 : a.kind = 2
 · obtain ⟨x, e⟩ := zzw hv (.inl c2)
   obtain ⟨p1, p2, p3⟩ := zrZ hv hw c0 (a := x) (by rw [e]; simp)
   have l1 := zpx x
   rw [if_pos c2, if_pos c2, e]
   simp only [yH, zad, yR, yr, yc]
   rw [zar ⟨p1, p2, by omega, by omega⟩, zad, okr (by simp only [yD, yC, yI]; omega), zad, okr (by simp only [yD, yC, yI]; omega), zad]
   simp [zfb]
 rw [if_neg c2, if_neg c2, zcs]
 by_cases c3 : a.kind = 3
 · obtain ⟨x, e⟩ := zzw hv (.inr c3)
   obtain ⟨p1, p2, p3⟩ := zrZ hv hw c0 (a := x) (by rw [e]; simp)
   have l1 := zpx x
   rw [if_pos c3, if_pos c3, e]
   simp only [yH, zad, yR, yr, yc]
   rw [zar ⟨p1, p2, by omega, by omega⟩, zad, okr (by simp only [yD, yC, yI]; omega), zad, okr (by simp only [yD, yC, yI]; omega), zad]
   simp [zc3]
 rw [if_neg c3, if_neg c3]
 obtain ⟨c4, f0, f3, o5, o10⟩ := zCi hv c0 c1 c2 c3
 have l1 := zMR a.func
 have l2 := zMl (a.op - 5)
 have l3 := zm1 a.bound
 have l4 := zlv (a.items.l.map zgs) zl9
 have l5 := zvP a.items.l
 have l6 := zsg (show 2 <= 3 by omega) (a.items.l.map zgs)
 rw [zij] at l5
 rw [show zl9.length = 2 from rfl] at l4
 rw [zar ⟨f0, f3⟩, zad, okr (by simp only [yD, yC, yI]; omega), zad, okr (by simp only [yD, yC, yI]; omega), zad,
  zu0 hv hw c0 h1 h2 (by simp only [yD, yC, yI]; omega) YJ, za5]
 simp only
 rw [okr (by simp only [yD, yC, yI]; omega), zad, zar ⟨o5, o10⟩, zad]
 unfold opS
 rw [okr (by simp only [yD, yC, yI]; omega), zad, okr (by simp only [yD, yC, yI]; omega), zad, zar hw'.2.2.2.2.2.2.2, zad,
  okr (by simp only [yD, yC, yI]; omega), zad, okr (by simp only [yD, yC, yI]; omega), zad]
 simp [zji, zlJ]
theorem out_l {α : Type} (l : List α) : (Sl.out l).l = l := Sl.out_l l
theorem zlo {a : Sl zaj} {sz kk k : Nat} (hp : ∀ f ∈ a.l, zgE f = true /\ zh9 f) (h1 : zaD a.l < lim) (h2 : 4 * zaD a.l + 2 < sz + 1) (hk : a.l.length < k) :
 zbn a (a.l.length : Int) sz kk k [] 0 = some (.done (a.l.map zbI, (a.l.length : Int))) := by
 have hn := zbO a.l
 rw [zgR] at h1
 refine zst (xs := a.l) (L := zbn a (a.l.length : Int) sz kk) zbI (fun k s => by simp [zbn]) (fun k i x l hx hl => ?_) hk
 have hi := (yW.1 hx).1
 have hm := yL hx
 obtain ⟨p1, p2, p3⟩ := zIA (hp x hm).1 (hp x hm).2
 have hsz := zcS hx
 have hsz2 := zcB x
 have hla := zAh x.atom
 have hit := ziY x.exp
 have hb1 : big = 1152921504606846976 := rfl
 simp only [zbn, zbE, hx]
 rw [YH (show (i : Int) < a.l.length by omega), zat, zaF YJ, zad, zar ⟨p1, p2, by rw [zgR]; omega, by omega⟩, zad, zw9, zk9]
 split
 · rw [okr YJ, zad]
 · rw [zar (zvW p3), zad, okr (by simp only [yC, yI]; omega), zad, okr (by simp only [yC]; omega), zad, okr YJ, zad]
theorem zmh {kk sz : Nat} {a : Sl zaj} (h : (∀ f ∈ a.l, zgE f = true /\ zh9 f) /\ zaD a.l < lim /\ 4 * zaD a.l + 2 < sz + 1) (hk : sz < kk) (hb : sz + 1 < big) : zdX kk sz a = some (zvk a) := by
 obtain ⟨hp, h1, h2⟩ := h
 have hn := zbO a.l
 have hlim := zgR
 have l4 := zlv (a.l.map zbI) [42]
 have l5 := zpw a.l
 have l6 := zsg (show 1 <= 3 by omega) (a.l.map zbI)
 rw [zgt] at l5
 rw [show ([42] : Str).length = 1 from rfl] at l4
 unfold zdX
 rw [zlo hp h1 h2 YJ, za5]
 simp only
 rw [zar (show zvT (Sl.out (a.l.map zbI)).l [42] by rw [out_l]; exact ⟨by unfold room; omega, by unfold room; rw [yV]; omega⟩), zad]
 unfold zon zvk; rw [out_l]
theorem zrH {a : Sl zam} {sz kk k : Nat} (hv : zdp a.l = true) (hw : zbB a.l) (h1 : zak a.l < lim) (h2 : 4 * zak a.l + 1 < sz + 1) (hk : a.l.length < k) :
 zb5 a (a.l.length : Int) sz kk k [] 0 = some (.done (a.l.map zgr, (a.l.length : Int))) := by
 have hn := zb4 a.l
 rw [zpk] at hv
 rw [zgR] at h1
 refine zst (xs := a.l) (L := zb5 a (a.l.length : Int) sz kk) zgr (fun k s => by simp [zb5]) (fun k i x l hx hl => ?_) hk
 have hi := (yW.1 hx).1
 have hm := yL hx
 obtain ⟨p1, p2, p3⟩ := zC2 (yl.1 hv x hm) ((zpV _).1 hw x hm)
 have hsz := zdk hx
 have hsz2 := zdq x
 have hit := ziY x.coeff
 have l4 := zlv (x.factors.l.map zbI) [42]
 have l5 := zpw x.factors.l
 have l6 := zsg (show 1 <= 3 by omega) (x.factors.l.map zbI)
 rw [zgt] at l5
 rw [show ([42] : Str).length = 1 from rfl] at l4
 have hb1 : big = 1152921504606846976 := rfl
 have hin : (zuH x.coeff && (10 : Int) == 10) = true := by rw [zvW p2]; rfl
 have hF : (zvk x.factors).length <= 64 * zaD x.factors.l := by unfold zvk; omega
 simp only [zb5, zbE, hx]
 rw [YH (show (i : Int) < a.l.length by omega), zat, zaF YJ, zad, zcs, zcs, zpm]
 by_cases he : (x.factors.l.length : Int) = 0
 · have : x.factors.l.isEmpty = true := by rw [List.isEmpty_iff]; exact ym.1 YJ
   rw [if_pos he, if_pos this, zar hin, zad, okr YJ, zad]; rfl
 · have : ¬ x.factors.l.isEmpty = true := by rw [List.isEmpty_iff]; intro e; rw [e] at he; exact he rfl
   rw [if_neg he, if_neg this]
   by_cases hc : x.coeff = 1
   · rw [if_pos hc, if_pos hc, zar ⟨p1, by rw [zgR]; omega, by omega⟩, zad, okr YJ, zad]; rfl
   · rw [if_neg hc, if_neg hc, zar hin, zad]
     unfold zvV
     rw [okr (by simp only [yC, yI]; omega), zad, zar ⟨p1, by rw [zgR]; omega, by omega⟩, zad, okr (by simp only [yD, yC, yI]; omega), zad, okr YJ, zad]
     congr 2
     unfold zvk; simp
theorem ztT {kk sz : Nat} {a : Sl zam} (h : zdp a.l = true /\ zbB a.l /\ zak a.l < lim /\ 4 * zak a.l + 1 < sz + 1) (hk : sz < kk) (hb : sz + 1 < big) : zjc kk sz a = some (zcu a) := by
 obtain ⟨hv, hw, h1, h2⟩ := h
 have hn := zb4 a.l
 have hlim := zgR
 have l4 := zlv (a.l.map zgr) zma
 have l5 := ztc a.l
 rw [zuw] at l5
 rw [show zma.length = 3 from rfl] at l4
 unfold zjc
 rw [zcs, zC7]
 by_cases he : (a.l.length : Int) = 0
 · have : a.l = [] := ym.1 YJ
   rw [if_pos he, this]; rfl
 · have : a.l.isEmpty = false := by
    cases e : a.l with
    | nil => rw [e] at he; exact absurd rfl he
    | cons => rfl
   rw [if_neg he, this, zrH hv hw h1 h2 YJ, za5]
   simp only
   rw [zar (show zvT (Sl.out (a.l.map zgr)).l [32, 43, 32] by rw [out_l]; exact ⟨by unfold room; rw [show ([32, 43, 32] : Str) = zma from rfl]; omega, by unfold room; rw [yV]; omega⟩), zad]
   unfold zon; rw [out_l]; rfl
theorem zmM {x : zas} {sz kk k : Nat} (hv : zgU x = true) (hw : zii x) (hk0 : x.kind ≠ 0) (h1 : zby x < lim) (h2 : 4 * zby x < sz + 1) (hk : x.items.l.length < k) :
 zbR x.items (x.items.l.length : Int) x sz kk k [] 0 = some (.done (x.items.l.map zgs, (x.items.l.length : Int))) := by
 have hz := zcr x
 have hn := zcA x.items.l
 rw [zgR] at h1
 refine zst (xs := x.items.l) (L := zbR x.items (x.items.l.length : Int) x sz kk) zgs (fun k s => by simp [zbR]) (fun k i w l hx hl => ?_) hk
 have hi := (yW.1 hx).1
 have hm := yL hx
 obtain ⟨p1, p2, p3, p4⟩ := zIz hv hw hk0 hm
 have hsz := zjp w
 have hl1 := zm1 w.value
 have hl2 := zpx w.ann
 have hb1 : big = 1152921504606846976 := rfl
 simp only [zbR, zbE, hx]
 rw [YH (show (i : Int) < x.items.l.length by omega), zat, zaF YJ, zad, zar p3.2, zad, okr (by simp only [yC, yI]; omega), zad, zar ⟨p1, p2, by rw [zgR]; omega, by omega⟩, zad,
  okr (by simp only [yD, yC, yI]; omega), zad, okr YJ, zad, zm8]
 rfl
theorem zPO {l : List Str} {n : Int} (h0 : 0 <= n) (h : n < l.length) : ix l n = some (nth l n) := by
 obtain ⟨m, rfl⟩ : ∃ m : Nat, n = m := ⟨n.toNat, by omega⟩
 rw [zbE]; unfold nth
 rw [Int.toNat_natCast, yB YJ]; rfl
theorem zn4 {kk sz : Nat} {a : zas} (h : zgU a = true /\ zii a /\ zby a < lim /\ 4 * zby a < sz + 1) (hk : sz < kk) (hb : sz + 1 < big) : zfF kk sz a = some (zfK a) := by
 obtain ⟨hv, hw, h1, h2⟩ := h
 have hz := zcr a
 have hw' := (zjo _).1 hw
 have hn := zcA a.items.l
 have hlim := zgR
 have hla := zAh a
 unfold zfF
 rw [zvl, zcs]
 by_cases c0 : a.kind = 0
 · rw [if_pos c0, if_pos c0, zar hw'.2.1, zad]
 rw [if_neg c0, if_neg c0, zcs]
 by_cases c1 : a.kind = 1
 · obtain ⟨x, y, e⟩ := zJu hv c1
   obtain ⟨p1, p2, p3⟩ := zrZ hv hw c0 (a := x) (by rw [e]; simp)
   obtain ⟨q1, q2, q3⟩ := zrZ hv hw c0 (a := y) (by rw [e]; simp)
   have l1 := zpx x
   have l2 := zpx y
   rw [if_pos c1, if_pos c1, e]
   simp only [yH, yX, zad, yR, yr, yc]
   rw [zar ⟨p1, p2, by omega, by omega⟩, zad, okr (by simp only [yD, yC, yI]; omega), zad, okr (by simp only [yD, yC, yI]; omega), zad,
    zar ⟨q1, q2, by omega, by omega⟩, zad, okr (by simp only [yD, yC, yI]; omega), zad, okr (by simp only [yD, yC, yI]; omega), zad]
   simp [zfa, zrn]
 rw [if_neg c1, if_neg c1, zcs]
 by_cases c2 : a.kind = 2
 · obtain ⟨x, e⟩ := zzw hv (.inl c2)
   obtain ⟨p1, p2, p3⟩ := zrZ hv hw c0 (a := x) (by rw [e]; simp)
   have l1 := zpx x
   rw [if_pos c2, if_pos c2, e]
   simp only [yH, zad, yR, yr, yc]
   rw [zar ⟨p1, p2, by omega, by omega⟩, zad, okr (by simp only [yD, yC, yI]; omega), zad, okr (by simp only [yD, yC, yI]; omega), zad]
   simp [zfb]
 rw [if_neg c2, if_neg c2, zcs]
 by_cases c3 : a.kind = 3
 · obtain ⟨x, e⟩ := zzw hv (.inr c3)
   obtain ⟨p1, p2, p3⟩ := zrZ hv hw c0 (a := x) (by rw [e]; simp)
   have l1 := zpx x
   rw [if_pos c3, if_pos c3, e]
   simp only [yH, zad, yR, yr, yc]
   rw [zar ⟨p1, p2, by omega, by omega⟩, zad, okr (by simp only [yD, yC, yI]; omega), zad, okr (by simp only [yD, yC, yI]; omega), zad]
   simp [zc3]
 rw [if_neg c3, if_neg c3]
 obtain ⟨c4, f0, f3, o5, o10⟩ := zCi hv c0 c1 c2 c3
 have l1 := zMR a.func
 have l2 := zMl (a.op - 5)
 have l3 := zm1 a.bound
 have l4 := zlv (a.items.l.map zgs) zl9
 have l5 := zvP a.items.l
 have l6 := zsg (show 2 <= 3 by omega) (a.items.l.map zgs)
 rw [zij] at l5
 rw [show zl9.length = 2 from rfl] at l4
 have hJ : zon (Sl.out (a.items.l.map zgs)) [59, 32] = zfc (a.items.l.map zgs) zl9 := by unfold zon; rw [out_l]; rfl
 rw [zmM hv hw c0 h1 h2 YJ, za5]
 simp only
 rw [hJ, show zly.l = zde from rfl, show zgZ.l = zc5 from rfl, zcG YJ YJ, zPO f0 (by rw [show zde.length = 4 from rfl]; omega), zad, zPO (show 0 <= a.op - 5 by omega) (by rw [show zc5.length = 6 from rfl]; omega)]
 rw [okr (by simp only [yD, yC, yI]; omega), zad, okr (by simp only [yD, yC, yI]; omega), zad,
  zar (show zvT (Sl.out (a.items.l.map zgs)).l [59, 32] by rw [out_l]; exact ⟨by unfold room; rw [show ([59, 32] : Str) = zl9 from rfl]; omega, by unfold room; rw [yV]; omega⟩), zad,
  okr (by simp only [yD, yC, yI]; omega), zad, okr (by simp only [yD, yC, yI]; omega), zad, zad,
  okr (by simp only [yD, yC, yI]; omega), zad, okr (by simp only [yD, yC, yI]; omega), zad, zar hw'.2.2.2.2.2.2.2, zad,
  okr (by simp only [yD, yC, yI]; omega), zad, okr (by simp only [yD, yC, yI]; omega), zad]
 simp [zji, zlJ]
mutual
def zrl : Int -> Int -> List zam -> Int -> Int
 | _, _, [], n => n
 | L, d, x :: xs, n => if n <= L then zrl L d xs (zCX L d x n) else n
def zCX : Int -> Int -> zam -> Int -> Int
 | L, d, .mk _ ⟨_, fs⟩, n => zj9 L d fs (n + 1 + fs.length)
def zj9 : Int -> Int -> List zaj -> Int -> Int
 | _, _, [], n => n
 | L, d, x :: xs, n => if n <= L then zj9 L d xs (zpZ L d x n) else n
def zpZ : Int -> Int -> zaj -> Int -> Int
 | L, d, .mk a _, n => zG1 L d a n
def zG1 : Int -> Int -> zas -> Int -> Int
 | L, d, .mk _ _ ⟨_, as⟩ _ ⟨_, is⟩ _ b, n => zrX L d is (zuv L d as (n + is.length + as.length + b.text.length))
def zuv : Int -> Int -> List (Sl zam) -> Int -> Int
 | _, _, [], n => n
 | L, d, ⟨_, x⟩ :: xs, n => if n <= L then zuv L d xs (n + (if d - 1 = 0 then L - n + 1 else zrl (L - n) (d - 1) x 0)) else n
def zrX : Int -> Int -> List zae -> Int -> Int
 | _, _, [], n => n
 | L, d, x :: xs, n => if n <= L then zrX L d xs (zCY L d x n) else n
def zCY : Int -> Int -> zae -> Int -> Int
 | L, d, .mk v ⟨_, l⟩, n => n + v.text.length + (if d - 1 = 0 then L - n + 1 else zrl (L - n) (d - 1) l 0)
end
def zC0 (a : Sl zam) (L d : Int) : Int := if d = 0 then L + 1 else zrl L d a.l 0
mutual
theorem zvg : ∀ (l : List zam) (L d n : Int), 0 <= L -> n <= zrl L d l n /\ zrl L d l n <= max n (L + 1 + zak l)
 | [], L, d, n, h => by simp only [zrl]; omega
 | x :: xs, L, d, n, h => by
   simp only [zrl, zak]
   by_cases c : n <= L
   · rw [if_pos c]
     have h1 := zIx x L d n h c
     have h2 := zvg xs L d (zCX L d x n) h
     omega
   · rw [if_neg c]; omega
theorem zIx : ∀ (x : zam) (L d n : Int), 0 <= L -> n <= L -> n <= zCX L d x n /\ zCX L d x n <= L + 1 + zcH x
 | .mk c ⟨f, fs⟩, L, d, n, h, k => by
   have h1 := zzB fs L d (n + 1 + fs.length) h
   have h2 := zbO fs
   simp only [zCX, zcH]; omega
theorem zzB : ∀ (l : List zaj) (L d n : Int), 0 <= L -> n <= zj9 L d l n /\ zj9 L d l n <= max n (L + 1 + zaD l)
 | [], L, d, n, h => by simp only [zj9]; omega
 | x :: xs, L, d, n, h => by
   simp only [zj9, zaD]
   by_cases c : n <= L
   · rw [if_pos c]
     have h1 := zCf x L d n h c
     have h2 := zzB xs L d (zpZ L d x n) h
     omega
   · rw [if_neg c]; omega
theorem zCf : ∀ (x : zaj) (L d n : Int), 0 <= L -> n <= L -> n <= zpZ L d x n /\ zpZ L d x n <= L + 1 + zc8 x
 | .mk a e, L, d, n, h, k => by
   have h1 := zOe a L d n h k
   simp only [zpZ, zc8]; omega
theorem zOe : ∀ (x : zas) (L d n : Int), 0 <= L -> n <= L -> n <= zG1 L d x n /\ zG1 L d x n <= L + 1 + zby x
 | .mk k r ⟨f1, as⟩ f ⟨f2, is⟩ o b, L, d, n, h, kk => by
   have h1 := zzd as L d (n + is.length + as.length + b.text.length) h
   have h2 := zEN is L d (zuv L d as (n + is.length + as.length + b.text.length)) h
   have h3 := zd6 as
   have h4 := zcA is
   simp only [zG1, zby]; omega
theorem zzd : ∀ (l : List (Sl zam)) (L d n : Int), 0 <= L -> n <= zuv L d l n /\ zuv L d l n <= max n (L + 1 + zcw l)
 | [], L, d, n, h => by simp only [zuv]; omega
 | ⟨f, x⟩ :: xs, L, d, n, h => by
   simp only [zuv, zcw]
   by_cases c : n <= L
   · rw [if_pos c]
     by_cases e : d - 1 = 0
     · rw [if_pos e]
       have h2 := zzd xs L d (n + (L - n + 1)) h
       omega
     · rw [if_neg e]
       have h1 := zvg x (L - n) (d - 1) 0 YJ
       have h2 := zzd xs L d (n + zrl (L - n) (d - 1) x 0) h
       omega
   · rw [if_neg c]; omega
theorem zEN : ∀ (l : List zae) (L d n : Int), 0 <= L -> n <= zrX L d l n /\ zrX L d l n <= max n (L + 1 + zbb l)
 | [], L, d, n, h => by simp only [zrX]; omega
 | x :: xs, L, d, n, h => by
   simp only [zrX, zbb]
   by_cases c : n <= L
   · rw [if_pos c]
     have h1 := zIy x L d n h c
     have h2 := zEN xs L d (zCY L d x n) h
     omega
   · rw [if_neg c]; omega
theorem zIy : ∀ (x : zae) (L d n : Int), 0 <= L -> n <= L -> n <= zCY L d x n /\ zCY L d x n <= L + 1 + zei x
 | .mk v ⟨f, l⟩, L, d, n, h, c => by
   simp only [zCY, zei]
   by_cases e : d - 1 = 0
   · rw [if_pos e]; omega
   · rw [if_neg e]
     have h1 := zvg l (L - n) (d - 1) 0 YJ
     omega
end
theorem zOb (L d : Int) (x : zam) (n : Int) : zCX L d x n = zj9 L d x.factors.l (n + 1 + x.factors.l.length) := by rcases x with ⟨c, ⟨f, l⟩⟩; simp only [zCX, zam.factors]
theorem zJz (L d : Int) (x : zaj) (n : Int) : zpZ L d x n = zG1 L d x.atom n := by cases x; simp only [zpZ, zaj.atom]
theorem zOd (L d : Int) (x : zas) (n : Int) : zG1 L d x n = zrX L d x.items.l (zuv L d x.args.l (n + x.items.l.length + x.args.l.length + x.bound.text.length)) := by
 rcases x with ⟨k, r, ⟨f, a⟩, fn, ⟨g, i⟩, o, b⟩; simp only [zG1, zas.args, zas.items, zas.bound]
theorem zOc (L d : Int) (x : zae) (n : Int) : zCY L d x n = n + x.value.text.length + zC0 x.ann (L - n) (d - 1) := by
 rcases x with ⟨v, ⟨f, l⟩⟩; simp only [zCY, zae.value, zae.ann, zC0]; first | done | rfl
theorem zJB (L d : Int) (x : Sl zam) (xs : List (Sl zam)) (n : Int) : zuv L d (x :: xs) n = if n <= L then zuv L d xs (n + zC0 x (L - n) (d - 1)) else n := by
 cases x; simp only [zuv, zC0]; first | done | rfl
def zuB {α : Type} (L : Int) (f : α -> Int -> Int) : List α -> Int -> Int
 | [], n => n
 | x :: xs, n => if n <= L then zuB L f xs (f x n) else n
theorem zGZ (L d : Int) (l : List zam) (n : Int) : zrl L d l n = zuB L (zCX L d) l n := by
 induction l generalizing n with
 | nil => simp only [zrl, zuB]
 | cons x l ih => simp only [zrl, zuB, ih]
theorem zCZ (L d : Int) (l : List zaj) (n : Int) : zj9 L d l n = zuB L (zpZ L d) l n := by
 induction l generalizing n with
 | nil => simp only [zj9, zuB]
 | cons x l ih => simp only [zj9, zuB, ih]
theorem zG0 (L d : Int) (l : List zae) (n : Int) : zrX L d l n = zuB L (zCY L d) l n := by
 induction l generalizing n with
 | nil => simp only [zrX, zuB]
 | cons x l ih => simp only [zrX, zuB, ih]
theorem zJA (L d : Int) (l : List (Sl zam)) (n : Int) : zuv L d l n = zuB L (fun x n => n + zC0 x (L - n) (d - 1)) l n := by
 induction l generalizing n with
 | nil => simp only [zuv, zuB]
 | cons x l ih => rw [zJB]; simp only [zuB, ih]
theorem zvs {α R : Type} {M : Nat -> Int -> Int -> Option (Out R (Int × Int))} {xs : List α} (L : Int) (f : α -> Int -> Int) (P : Int -> Prop)
 (hend : ∀ k n (i : Nat), (xs.length <= i ∨ ¬ n <= L) -> M (k + 1) n (i : Int) = some (.done (n, (i : Int))))
 (hstep : ∀ k (i : Nat) x n, xs[i]? = some x -> P n -> n <= L -> M (k + 1) n (i : Int) = M k (f x n) ((i + 1 : Nat) : Int) /\ P (f x n)) :
 ∀ k (i : Nat) n, P n -> i <= xs.length -> xs.length - i < k -> ∃ j : Nat, M k n (i : Int) = some (.done (zuB L f (xs.drop i) n, (j : Int))) := by
 intro k
 induction k with
 | zero => intro i n _ _ h; omega
 | succ k ih =>
   intro i n hP h1 h2
   by_cases e : i = xs.length
   · subst e; rw [hend k n _ (.inl (yP _)), List.drop_length]; exact ⟨_, rfl⟩
   · have hi : i < xs.length := by omega
     rw [yb hi]
     simp only [zuB]
     by_cases c : n <= L
     · obtain ⟨s1, s2⟩ := hstep k i _ n (yB hi) hP c
       rw [s1, if_pos c]
       exact ih (i + 1) _ s2 YJ YJ
     · rw [hend k n i (.inr c), if_neg c]; exact ⟨_, rfl⟩
end Go.Ev
namespace Go.Ev
open Go.IntKind (wrap)
noncomputable def zfM (c26 : Sl zam) (c27 c28 c30 c31 : Int) (c33 : zas) (sz kk : Nat) : Nat -> Int -> Int -> Option (Out (Int) (Int × Int))
 | 0, _, _ => none
 | k + 1, s29, s32 =>
   sel (
    bnd (ix c33.items.l s32) fun (y34 : zae) =>
    bnd (okP ((zak y34.ann.l < sz /\ zak y34.ann.l < lim /\ 0 <= (wrap .i64 (c27 - s29)) /\ (wrap .i64 (c27 - s29)) <= 4294967296 /\ 0 <= (wrap .i64 (c28 - 1)) /\ (wrap .i64 (c28 - 1)) <= 4294967296))) fun _ =>
    zfM c26 c27 c28 c30 c31 c33 sz kk k (wrap .i64 ((wrap .i64 (s29 + (y34.value.text.length : Int))) + (zC0 y34.ann (wrap .i64 (c27 - s29)) (wrap .i64 (c28 - 1))))) (wrap .i64 (s32 + 1))) (
    some (.done (s29, s32))) ((decide (s32 < (c33.items.l.length : Int))) && (decide (s29 <= c27)))
noncomputable def zfN (c15 : Sl zam) (c16 c17 c19 c20 : Int) (c22 : zas) (sz kk : Nat) : Nat -> Int -> Int -> Option (Out (Int) (Int × Int))
 | 0, _, _ => none
 | k + 1, s18, s21 =>
   sel (
    bnd (ix c22.args.l s21) fun (y23 : (Sl zam)) =>
    bnd (okP ((zak y23.l < sz /\ zak y23.l < lim /\ 0 <= (wrap .i64 (c16 - s18)) /\ (wrap .i64 (c16 - s18)) <= 4294967296 /\ 0 <= (wrap .i64 (c17 - 1)) /\ (wrap .i64 (c17 - 1)) <= 4294967296))) fun _ =>
    zfN c15 c16 c17 c19 c20 c22 sz kk k (wrap .i64 (s18 + (zC0 y23 (wrap .i64 (c16 - s18)) (wrap .i64 (c17 - 1))))) (wrap .i64 (s21 + 1))) (
    some (.done (s18, s21))) ((decide (s21 < (c22.args.l.length : Int))) && (decide (s18 <= c16)))
noncomputable def zfO (c7 : Sl zam) (c8 c9 c11 : Int) (sz kk : Nat) : Nat -> Int -> Int -> Option (Out (Int) (Int × Int))
 | 0, _, _ => none
 | k + 1, s10, s12 =>
   bnd (ix c7.l c11) fun (y13 : zam) =>
   sel (
    bnd (ix y13.factors.l s12) fun (y14 : zaj) =>
    zgD (zfN c7 c8 c9 c11 s12 y14.atom sz kk kk (wrap .i64 ((wrap .i64 ((wrap .i64 (s10 + (y14.atom.items.l.length : Int))) + (y14.atom.args.l.length : Int))) + (y14.atom.bound.text.length : Int))) 0) (fun r => some (.ret r)) fun (q25 : Int × Int) =>
     zgD (zfM c7 c8 c9 c11 s12 y14.atom sz kk kk q25.1 0) (fun r => some (.ret r)) fun (q36 : Int × Int) =>
      zfO c7 c8 c9 c11 sz kk k q36.1 (wrap .i64 (s12 + 1))) (
    some (.done (s10, s12))) ((decide (s12 < (y13.factors.l.length : Int))) && (decide (s10 <= c8)))
noncomputable def zgM (c1 : Sl zam) (c2 c3 : Int) (sz kk : Nat) : Nat -> Int -> Int -> Option (Out (Int) (Int × Int))
 | 0, _, _ => none
 | k + 1, s4, s5 =>
   sel (
    bnd (ix c1.l s5) fun (y6 : zam) =>
    zgD (zfO c1 c2 c3 s5 sz kk kk (wrap .i64 ((wrap .i64 (s4 + 1)) + (y6.factors.l.length : Int))) 0) (fun r => some (.ret r)) fun (q37 : Int × Int) =>
     zgM c1 c2 c3 sz kk k q37.1 (wrap .i64 (s5 + 1))) (
    some (.done (s4, s5))) ((decide (s5 < (c1.l.length : Int))) && (decide (s4 <= c2)))
noncomputable def zoz (kk sz : Nat) (a : (Sl zam)) (b : Int) (c : Int) : Option (Int) :=
 sel (
  some (wrap .i64 (b + 1))) (
  zgD (zgM a b c sz kk kk 0 0) (fun r => some r) fun (q38 : Int × Int) =>
   some q38.1) (c == 0)
noncomputable def zjV (c1 : Int) (c2 : Sl (Sl zam)) (kk : Nat) : Nat -> Int -> Option (Out (Bool) (Int))
 | 0, _ => none
 | k + 1, s3 =>
   sel (
    bnd (ix c2.l s3) fun (y4 : (Sl zam)) =>
    bnd (okP ((zak y4.l < big - 1 /\ zak y4.l < lim /\ 0 <= c1 /\ c1 <= 4294967296 /\ 0 <= (12 : Int) /\ (12 : Int) <= 4294967296))) fun _ =>
    sel (
     some (.ret false)) (
     zjV c1 c2 kk k (wrap .i64 (s3 + 1))) (decide (c1 < (zC0 y4 c1 12)))) (
    some (.done s3)) (decide (s3 < (c2.l.length : Int)))
noncomputable def zwH (kk : Nat) (a : Int) (b : (Sl (Sl zam))) : Option (Bool) :=
 zgD (zjV a b kk kk 0) (fun r => some r) fun (q6 : Int) =>
  some true
end Go.Ev
namespace Go.Ev
theorem zLq {x : Sl zam} {L d : Int} (h : 0 <= L) : 0 <= zC0 x L d /\ zC0 x L d <= L + 1 + zak x.l := by
 unfold zC0
 split
 · omega
 · have := zvg x.l L d 0 h; omega
theorem zxQ {c26 : Sl zam} {L d c30 c31 : Int} {a : zas} {sz kk k : Nat} {n : Int} (h1 : zbb a.items.l < sz) (h2 : zbb a.items.l < lim) (hL : 0 <= L) (hL2 : L <= 4294967296) (hd : 1 <= d) (hd2 : d <= 4294967296) (hn : 0 <= n) (hk : a.items.l.length < k) :
 ∃ j : Nat, zfM c26 L d c30 c31 a sz kk k n 0 = some (.done (zrX L d a.items.l n, (j : Int))) := by
 have hlen := zcA a.items.l
 have hb1 : big = 1152921504606846976 := rfl
 rw [zgR] at h2
 have := zvs (M := zfM c26 L d c30 c31 a sz kk) (xs := a.items.l) L (zCY L d) (fun n => 0 <= n) (fun k n i hi => ?_) (fun k i x n hx hn hnL => ?_) k 0 n hn YJ YJ
 · rw [yg] at this
   rw [zG0]; exact this
 · rw [zfM]
   rcases hi with hi | hi
   · rw [YI YJ]; rfl
   · rw [YI hi, Bool.and_false]; rfl
 · have hi := (yW.1 hx).1
   have hsz := zil hx
   have hsz2 := zjp x
   have hbd := zIy x L d n hL hnL
   have hbd2 := zLq (x := x.ann) (L := L - n) (d := d - 1) YJ
   have hlim := zgR
   refine ⟨?_, by omega⟩
   rw [zOc] at hbd ⊢
   rw [zfM, YH (show (i : Int) < a.items.l.length by omega), YH hnL, Bool.and_self, zat, zbE, hx, zad]
   rw [zcG (n := L - n) YJ YJ, zcG (n := d - 1) YJ YJ, zar ⟨by omega, by omega, by omega, by omega, by omega, by omega⟩, zad, zaF YJ, zcG (n := n + _) YJ YJ, zcG YJ YJ]
theorem zxR {c15 : Sl zam} {L d c19 c20 : Int} {a : zas} {sz kk k : Nat} {n : Int} (h1 : zcw a.args.l < sz) (h2 : zcw a.args.l < lim) (hL : 0 <= L) (hL2 : L <= 4294967296) (hd : 1 <= d) (hd2 : d <= 4294967296) (hn : 0 <= n) (hk : a.args.l.length < k) :
 ∃ j : Nat, zfN c15 L d c19 c20 a sz kk k n 0 = some (.done (zuv L d a.args.l n, (j : Int))) := by
 have hlen := zd6 a.args.l
 have hb1 : big = 1152921504606846976 := rfl
 rw [zgR] at h2
 have := zvs (M := zfN c15 L d c19 c20 a sz kk) (xs := a.args.l) L (fun x n => n + zC0 x (L - n) (d - 1)) (fun n => 0 <= n) (fun k n i hi => ?_) (fun k i x n hx hn hnL => ?_) k 0 n hn YJ YJ
 · rw [yg] at this
   rw [zJA]; exact this
 · rw [zfN]
   rcases hi with hi | hi
   · rw [YI YJ]; rfl
   · rw [YI hi, Bool.and_false]; rfl
 · have hi := (yW.1 hx).1
   have hsz := zfQ hx
   have hbd2 := zLq (x := x) (L := L - n) (d := d - 1) YJ
   have hlim := zgR
   refine ⟨?_, by omega⟩
   rw [zfN, YH (show (i : Int) < a.args.l.length by omega), YH hnL, Bool.and_self, zat, zbE, hx, zad]
   rw [zcG (n := L - n) YJ YJ, zcG (n := d - 1) YJ YJ, zar ⟨by omega, by omega, by omega, by omega, by omega, by omega⟩, zad, zaF YJ, zcG YJ YJ]
theorem zxS {c7 : Sl zam} {L d : Int} {p : Nat} {t : zam} {sz kk k : Nat} {n : Int} (ht : c7.l[p]? = some t) (h1 : zcH t < sz) (h2 : zcH t < lim) (hL : 0 <= L) (hL2 : L <= 4294967296) (hd : 1 <= d) (hd2 : d <= 4294967296) (hn : 0 <= n) (hk : t.factors.l.length < k) (hkk : sz < kk) :
 ∃ j : Nat, zfO c7 L d (p : Int) sz kk k n 0 = some (.done (zj9 L d t.factors.l n, (j : Int))) := by
 have hlen := zbO t.factors.l
 have hzt := zdq t
 have hb1 : big = 1152921504606846976 := rfl
 rw [zgR] at h2
 have := zvs (M := zfO c7 L d (p : Int) sz kk) (xs := t.factors.l) L (zpZ L d) (fun n => 0 <= n) (fun k n i hi => ?_) (fun k i x n hx hn hnL => ?_) k 0 n hn YJ YJ
 · rw [yg] at this
   rw [zCZ]; exact this
 · rw [zfO, zbE, ht, zad]
   rcases hi with hi | hi
   · rw [YI YJ]; rfl
   · rw [YI hi, Bool.and_false]; rfl
 · have hi := (yW.1 hx).1
   have hsz := zcS hx
   have hsz2 := zcB x
   have hsz3 := zcr x.atom
   have hsz4 := zd6 x.atom.args.l
   have hsz5 := zcA x.atom.items.l
   have hbd := zCf x L d n hL hnL
   have hbd1 := zzd x.atom.args.l L d (n + x.atom.items.l.length + x.atom.args.l.length + x.atom.bound.text.length) hL
   have hlim := zgR
   refine ⟨?_, by omega⟩
   obtain ⟨j2, e2⟩ := zxR (c15 := c7) (L := L) (d := d) (c19 := (p : Int)) (c20 := (i : Int)) (a := x.atom) (sz := sz) (kk := kk) (k := kk) (n := n + x.atom.items.l.length + x.atom.args.l.length + x.atom.bound.text.length) YJ YJ hL hL2 hd hd2 YJ YJ
   obtain ⟨j3, e3⟩ := zxQ (c26 := c7) (L := L) (d := d) (c30 := (p : Int)) (c31 := (i : Int)) (a := x.atom) (sz := sz) (kk := kk) (k := kk) (n := zuv L d x.atom.args.l (n + x.atom.items.l.length + x.atom.args.l.length + x.atom.bound.text.length)) YJ YJ hL hL2 hd hd2 YJ YJ
   rw [zfO, zbE, ht, zad, YH (show (i : Int) < t.factors.l.length by omega), YH hnL, Bool.and_self, zat, zbE, hx, zad]
   rw [zcG (n := n + _) YJ YJ, zcG (n := n + _ + _) YJ YJ, zcG (n := n + _ + _ + _) YJ YJ, e2, za5]
   simp only
   rw [e3, za5, zaF YJ, zJz, zOd]
theorem zA6 {kk sz : Nat} {a : Sl zam} {b c : Int} (h : zak a.l < sz + 1 /\ zak a.l < lim /\ 0 <= b /\ b <= 4294967296 /\ 0 <= c /\ c <= 4294967296) (hk : sz < kk) (_hb : sz + 1 < big) : zoz kk sz a b c = some (zC0 a b c) := by
 obtain ⟨h1, h2, h3, h4, h5, h6⟩ := h
 have hlen := zb4 a.l
 have hb1 : big = 1152921504606846976 := rfl
 rw [zgR] at h2
 unfold zoz zC0
 rw [zcs]
 by_cases hc : c = 0
 · rw [if_pos hc, if_pos hc, zcG YJ YJ]
 · rw [if_neg hc, if_neg hc]
   have := zvs (M := zgM a b c sz kk) (xs := a.l) b (zCX b c) (fun n => 0 <= n) (fun k n i hi => ?_) (fun k i x n hx hn hnL => ?_) kk 0 0 YJ YJ YJ
   · obtain ⟨j, e⟩ := this
     rw [yg, show ((0 : Nat) : Int) = 0 from rfl] at e
     rw [e, za5, zGZ]
   · rw [zgM]
     rcases hi with hi | hi
     · rw [YI YJ]; rfl
     · rw [YI hi, Bool.and_false]; rfl
   · have hi := (yW.1 hx).1
     have hsz := zdk hx
     have hsz2 := zdq x
     have hsz3 := zbO x.factors.l
     have hbd := zIx x b c n h3 hnL
     have hlim := zgR
     refine ⟨?_, by omega⟩
     obtain ⟨j, e⟩ := zxS (c7 := a) (L := b) (d := c) (p := i) (t := x) (sz := sz) (kk := kk) (k := kk) (n := n + 1 + x.factors.l.length) hx YJ YJ h3 h4 YJ h6 YJ YJ hk
     rw [zgM, YH (show (i : Int) < a.l.length by omega), YH hnL, Bool.and_self, zat, zbE, hx, zad]
     rw [zcG (n := n + 1) YJ YJ, zcG (n := n + 1 + _) YJ YJ, e, za5, zaF YJ, zOb]
def zTF (L : Int) (l : Sl (Sl zam)) : Bool := l.l.all fun a => decide (zC0 a L 12 <= L)
theorem zGM {kk : Nat} {a : Int} {b : Sl (Sl zam)} (h : 0 <= a /\ a <= 4294967296 /\ zcw b.l < lim) (hk : b.l.length < kk) : zwH kk a b = some (zTF a b) := by
 obtain ⟨h1, h2, h3⟩ := h
 have hlen := zd6 b.l
 have hb1 : big = 1152921504606846976 := rfl
 rw [zgR] at h3
 unfold zwH zTF
 rw [zkt (xs := b.l) (L := zjV a b kk) (fun x => !decide (zC0 x a 12 <= a)) false (fun k => by simp [zjV]) (fun k i x hi ex => ?_) hk, zll]
 · generalize b.l.all _ = u; cases u <;> rfl
 · have hx := zfQ ex
   simp only [zjV, zdC, YH hi, zat, zbE, ex, zad]
   rw [zar ⟨by omega, by rw [zgR]; omega, h1, h2, by omega, by omega⟩, zad, zaF YJ]
   by_cases c : zC0 x a 12 <= a
   · rw [YH c, YI YJ]; rfl
   · rw [YI c, YH YJ]; rfl
end Go.Ev
namespace Go.Ev
open Go.IntKind (wrap)
def zKZ (s : Str) : Bool := s.all fun b => decide (b.toNat < 128)
def zk2 (a b : Str) : Bool := b.isPrefixOf a
def zho (a b : Str) : Str × Bool := ((zaQ b a).2, (zaQ b a).1)
def zla (a b : Str) : Str := (zaQ b a).2
def zqB (a b : Str) : Str := a.dropWhile fun x => b.contains x
def zaR (p : zab) (b : Str) : Bool × zab := ((zaQ b p.rest).1, ⟨(zaQ b p.rest).2⟩)
def zne (p : zab) (b : Str) : Str × zab := ((zvB b p.rest).1, ⟨(zvB b p.rest).2⟩)
def zmb (p : zab) : Int × Bool × zab := ((zhy p.rest).1, (zhy p.rest).2.1, ⟨(zhy p.rest).2.2⟩)
def zAm (a : Int) : Bool := decide (48 <= a) && decide (a <= 57)
def zob (s : Str) : Str × Bool := ((ziQ s).getD (if 2 <= s.length /\ s.head? = some 39 /\ s.getLast? = some 39 then zm6 (s.drop 1).dropLast else []), (ziQ s).isSome)
def zlK (p : zab) : Val × Bool × zab := ((zfq p.rest).1, (zfq p.rest).2.1, ⟨(zfq p.rest).2.2⟩)
noncomputable def zen (kk : Nat) (a b : Str) : Option (Bool) :=
 sel (
  bnd (zCk a none (some (b.length : Int))) fun (y1 : Str) =>
  some (y1 == b)) (
  some false) (decide ((b.length : Int) <= (a.length : Int)))
noncomputable def zjX (kk : Nat) (a b : Str) : Option (Bool) :=
 some ((zk2 a b))
noncomputable def zeo (kk : Nat) (a b : Str) : Option (Str × Bool) :=
 sel (
  some (a, false)) (
  bnd (zCk a (some (b.length : Int)) none) fun (y1 : Str) =>
  some (y1, true)) (!((zk2 a b)))
noncomputable def zjY (kk : Nat) (a b : Str) : Option (Str × Bool) :=
 some ((zho a b).1, ((zho a b).2))
noncomputable def zdT (kk : Nat) (a b : Str) : Option (Str) :=
 sel (
  bnd (zCk a (some (b.length : Int)) none) fun (y1 : Str) =>
  some y1) (
  some a) ((zk2 a b))
noncomputable def zjm (kk : Nat) (a b : Str) : Option (Str) :=
 some (zla a b)
noncomputable def zdc (c5 c6 : Str) (c7 c8 : Int) (c10 c12 : Str) (kk : Nat) : Nat -> Bool -> Nat -> Nat -> Option (Out (Str) (Bool × Nat × Nat))
 | 0, _, _, _ => none
 | k + 1, s9, s11, s13 =>
   sel (
    zdc c5 c6 c7 c8 c10 c12 kk k ((s9) || (c8 == ((Utf8.decode ⟨c12.toArray⟩ s13).1))) s11 (s13 + (Utf8.decode ⟨c12.toArray⟩ s13).2)) (
    some (.done ((s9), s11, s13))) (ltn s13 c12.length)
noncomputable def zdd (c1 c2 c3 : Str) (kk : Nat) : Nat -> Nat -> Option (Out (Str) (Nat))
 | 0, _ => none
 | k + 1, s4 =>
   sel (
    zgD (zdc c1 c2 (s4 : Int) ((Utf8.decode ⟨c3.toArray⟩ s4).1) c3 c2 kk kk false (s4 + (Utf8.decode ⟨c3.toArray⟩ s4).2) 0) (fun r => some (.ret r)) fun (q14 : Bool × Nat × Nat) =>
     sel (
      bnd (zCk c1 (some (s4 : Int)) none) fun (y15 : Str) =>
      some (.ret y15)) (
      zdd c1 c2 c3 kk k q14.2.1) (!(q14.1))) (
    some (.done s4)) (ltn s4 c3.length)
noncomputable def zg9 (kk : Nat) (a b : Str) : Option (Str) :=
 zgD (zdd a b a kk kk 0) (fun r => some r) fun (q16 : Nat) =>
  some []
noncomputable def zhm (kk : Nat) (a : zab) (b : Str) : Option (Bool × zab) :=
 some (((zho a.rest b).2), (a.setRest ((zho a.rest b).1)))
noncomputable def zfD (kk : Nat) (a : zab) (b : Str) : Option (Str × zab) :=
 bnd (okP (a.rest.length < lim /\ b.length < lim /\ zKZ b = true)) fun _ =>
 bnd (zCk a.rest none (some (wrap .i64 ((a.rest.length : Int) - ((zqB a.rest b).length : Int))))) fun (y2 : Str) =>
 some (y2, (a.setRest (zqB a.rest b)))
noncomputable def zdW (kk : Nat) (a : zab) : Option (Int × Bool × zab) :=
 bnd (okP (a.rest.length < lim /\ [48, 49, 50, 51, 52, 53, 54, 55, 56, 57].length < lim /\ zKZ [48, 49, 50, 51, 52, 53, 54, 55, 56, 57] = true)) fun _ =>
 bnd (okP (zxf ((zne a [48, 49, 50, 51, 52, 53, 54, 55, 56, 57]).1) (10 : Int) (64 : Int))) fun _ =>
 some ((zoN ((zne a [48, 49, 50, 51, 52, 53, 54, 55, 56, 57]).1) 10 64).1, ((zoN ((zne a [48, 49, 50, 51, 52, 53, 54, 55, 56, 57]).1) 10 64).2), (zne a [48, 49, 50, 51, 52, 53, 54, 55, 56, 57]).2)
noncomputable def zlp (kk : Nat) (a : Int) : Option (Bool) :=
 some ((decide (48 <= a)) && (decide (a <= 57)))
noncomputable def zi7 (kk : Nat) (a : Int) : Option (Bool) :=
 some (!((zAm a)))
noncomputable def zbk (c1 : Bool) (c2 : Str) (kk : Nat) : Nat -> Nat -> Option (Out (Int) (Nat))
 | 0, _ => none
 | k + 1, s3 =>
   sel (
    bnd (zi7 kk ((Utf8.decode ⟨c2.toArray⟩ s3).1)) fun (r4 : Bool) =>
    sel (
     some (.ret (s3 : Int))) (
     zbk c1 c2 kk k (s3 + (Utf8.decode ⟨c2.toArray⟩ s3).2)) (((r4) && (c1)) || ((!(r4)) && (!(c1))))) (
    some (.done s3)) (ltn s3 c2.length)
noncomputable def zb6 (kk : Nat) (a : Str) (c : Bool) : Option (Int) :=
 zgD (zbk (c) a kk kk 0) (fun r => some r) fun (q5 : Nat) =>
  some (-1)
noncomputable def zb7 (kk : Nat) (a : Str) : Option (Int) :=
 bnd (zb6 kk a true) fun (r1 : Int) =>
 some r1
noncomputable def zbD (kk : Nat) (a : Str) : Option (Bool) :=
 bnd (zb7 kk a) fun (r1 : Int) =>
 some (decide (0 <= r1))
noncomputable def zhj (c1 : Str) (kk : Nat) : Option (Bool) :=
 sel (
  bnd (c1[0]?) fun (y2 : UInt8) =>
  sel (
   bnd (zbD kk c1) fun (r3 : Bool) =>
   some (r3)) (
   some true) (!((y2.toNat : Int) == 48))) (
  some true) (!(c1 == []))
noncomputable def zkP (kk : Nat) (a : Str) : Option (Int × Int) :=
 bnd (zhj a kk) fun (q4 : Bool) =>
 sel (
  some (0, 3)) (
  bnd (okP (a.length < lim)) fun _ =>
  sel (
   some (0, 2)) (
   some ((zj2 a).1, 0)) (!((zj2 a).2))) (q4)
noncomputable def zlC (kk : Nat) (a : Str) : Option (zbZ × Int) :=
 bnd (okP (((zho a [116]).1).length < lim)) fun _ =>
 sel (
  some (zbZ.zero, 3)) (
  bnd (okP (((zD6 ((zho a [116]).1) [46]).1).length < lim)) fun _ =>
  bnd (okP (((zD6 ((zho a [116]).1) [46]).2.1).length < lim)) fun _ =>
  sel (
   some (zbZ.zero, 3)) (
   sel (
    some (zbZ.zero, 2)) (
    some (((zbZ.zero.setTable ((zim ((zD6 ((zho a [116]).1) [46]).1)).1)).setSeq ((zim ((zD6 ((zho a [116]).1) [46]).2.1)).1)), 0)) ((((zim ((zD6 ((zho a [116]).1) [46]).1)).2) != 0) || (((zim ((zD6 ((zho a [116]).1) [46]).2.1)).2) != 0))) ((((zim ((zD6 ((zho a [116]).1) [46]).1)).2) == 3) || (((zim ((zD6 ((zho a [116]).1) [46]).2.1)).2) == 3))) ((!((zho a [116]).2)) || (!((zD6 ((zho a [116]).1) [46]).2.2)))
noncomputable def zhi (c1 : Str) (kk : Nat) : Option (Bool) :=
 sel (
  bnd (c1[0]?) fun (y2 : UInt8) =>
  sel (
   bnd (ix c1 (wrap .i64 ((c1.length : Int) - 1))) fun (y3 : UInt8) =>
   some ((y3.toNat : Int) != 39)) (
   some true) (!((y2.toNat : Int) != 39))) (
  some true) (!(decide ((c1.length : Int) < 2)))
noncomputable def zkN (kk : Nat) (a : Str) : Option (Str × Bool) :=
 bnd (zhi a kk) fun (q4 : Bool) =>
 sel (
  some ([], false)) (
  bnd (zCk a (some 1) (some (wrap .i64 ((a.length : Int) - 1)))) fun (y5 : Str) =>
  bnd (okP (zyg y5 [39, 39] [])) fun _ =>
  bnd (okP (zyg y5 [39, 39] [39])) fun _ =>
  bnd (okP ((zna y5 [39, 39] []).length < lim)) fun _ =>
  some ((zna y5 [39, 39] [39]), (!((zOZ (zna y5 [39, 39] []) [39]))))) (q4)
noncomputable def zi6 (kk : Nat) (a : Str) : Option (Bool) :=
 sel (
  bnd ((zla a [45])[0]?) fun (y1 : UInt8) =>
  sel (
   some false) (
   bnd (okP (zIF (zla a [45]) [48, 49, 50, 51, 52, 53, 54, 55, 56, 57])) fun _ =>
   some ((trimS (zla a [45]) [48, 49, 50, 51, 52, 53, 54, 55, 56, 57]) == [])) (((y1.toNat : Int) == 48) && (!(a == [48])))) (
  some false) (!((zla a [45]) == []))
noncomputable def zmO (kk : Nat) (a : Str) : Option (Val × Int) :=
 sel (
  some (((Val.zero.setKind 2).setInt 1), 0)) (
  sel (
   some ((Val.zero.setKind 2), 0)) (
   bnd (okP (a.length < lim)) fun _ =>
   sel (
    sel (
     some (Val.zero, 6)) (
     some (((Val.zero.setKind 1).setText ((zob a).1)), 0)) (decide (255 < (((zob a).1).length : Int)))) (
    bnd (okP (a.length < lim)) fun _ =>
    sel (
     some (Val.zero, 3)) (
     bnd (okP (zxf a (10 : Int) (64 : Int))) fun _ =>
     sel (
      some (Val.zero, 2)) (
      some ((Val.zero.setInt ((zoN a 10 64).1)), 0)) (!((zoN a 10 64).2))) (!((zyp a)))) ((zob a).2)) (a == [70, 65, 76, 83, 69])) (a == [84, 82, 85, 69])
noncomputable def zdi (c4 : Int) (c5 : zab) (c6 : Val) (kk : Nat) : Option (Bool) :=
 sel (
  bnd (ix c5.rest c4) fun (y7 : UInt8) =>
  sel (
   bnd (zCk c5.rest (some c4) none) fun (y8 : Str) =>
   some ((zk2 y8 [39, 39]))) (
   some true) (!((y7.toNat : Int) != 39))) (
  some false) (decide (c4 < (c5.rest.length : Int)))
noncomputable def zbK (c2 : zab) (c3 : Val) (kk : Nat) : Nat -> Int -> Option (Out (Val × Bool × zab) (Int))
 | 0, _ => none
 | k + 1, s1 =>
   bnd (zdi s1 c2 c3 kk) fun (q9 : Bool) =>
   sel (
    bnd (ix c2.rest s1) fun (y10 : UInt8) =>
    sel (
     zbK c2 c3 kk k (wrap .i64 ((wrap .i64 (s1 + 1)) + 1))) (
     zbK c2 c3 kk k (wrap .i64 (s1 + 1))) ((y10.toNat : Int) == 39)) (
    some (.done s1)) (q9)
noncomputable def zdM (kk : Nat) (a : zab) : Option (Val × Bool × zab) :=
 sel (
  zgD (zbK a Val.zero kk kk 1) (fun r => some r) fun (q11 : Int) =>
   sel (
    some (Val.zero, false, a)) (
    bnd (zCk a.rest none (some (wrap .i64 (q11 + 1)))) fun (y12 : Str) =>
    bnd (zCk a.rest (some (wrap .i64 (q11 + 1))) none) fun (y13 : Str) =>
    bnd (okP (y12.length < lim)) fun _ =>
    some ((zfn y12).1, (((zfn y12).2) == 0), (a.setRest y13))) (decide ((a.rest.length : Int) <= q11))) (
  bnd (okP (a.rest.length < lim /\ [45, 48, 49, 50, 51, 52, 53, 54, 55, 56, 57, 84, 82, 85, 69, 70, 65, 76, 83, 69].length < lim /\ zKZ [45, 48, 49, 50, 51, 52, 53, 54, 55, 56, 57, 84, 82, 85, 69, 70, 65, 76, 83, 69] = true)) fun _ =>
  bnd (okP (((zne a [45, 48, 49, 50, 51, 52, 53, 54, 55, 56, 57, 84, 82, 85, 69, 70, 65, 76, 83, 69]).1).length < lim)) fun _ =>
  some ((zfn ((zne a [45, 48, 49, 50, 51, 52, 53, 54, 55, 56, 57, 84, 82, 85, 69, 70, 65, 76, 83, 69]).1)).1, (((zfn ((zne a [45, 48, 49, 50, 51, 52, 53, 54, 55, 56, 57, 84, 82, 85, 69, 70, 65, 76, 83, 69]).1)).2) == 0), (zne a [45, 48, 49, 50, 51, 52, 53, 54, 55, 56, 57, 84, 82, 85, 69, 70, 65, 76, 83, 69]).2)) ((zk2 a.rest [39]))
end Go.Ev
namespace Go.Ev
def zyf (a : Sl Str) : Prop := a.l.length < 100 /\ ∀ w ∈ a.l, w.length < 100
def zHN (a : Sl Str) (p : zab) : Int × zab := ((zcj 123 a.l 0 p.rest).1, ⟨(zcj 123 a.l 0 p.rest).2⟩)
def zxn (a : Sl Str) (p : zab) : Int × zab := ((zcj 32 a.l 0 p.rest).1, ⟨(zcj 32 a.l 0 p.rest).2⟩)
def zsk (p : zab) (x : zas) : Option (zab × Int) := some (⟨(ziq p.rest).2⟩, if (ziq p.rest).1 = 0 then x.kind else (ziq p.rest).1)
def zc4 (p : zab) (d : Int) : Sl zam × Bool × zab := ((zng (d + 1).toNat p.rest).1, (zng (d + 1).toNat p.rest).2.1, ⟨(zng (d + 1).toNat p.rest).2.2⟩)
def zoj (p : zab) (d : Int) : zam × Bool × zab := ((zvH (zng d.toNat) p.rest).1, (zvH (zng d.toNat) p.rest).2.1, ⟨(zvH (zng d.toNat) p.rest).2.2⟩)
def zgQ (p : zab) (d : Int) : zas × Bool × zab := ((zrA (zng d.toNat) p.rest).1, (zrA (zng d.toNat) p.rest).2.1, ⟨(zrA (zng d.toNat) p.rest).2.2⟩)
def zds (p : zab) (_x : zas) (d : Int) : Bool × zab × zas := ((zty (zng d.toNat) p.rest).2.1, ⟨(zty (zng d.toNat) p.rest).2.2⟩, (zty (zng d.toNat) p.rest).1)
noncomputable def zdV (kk : Nat) (a : Str) (u1 : zab) : Option (Bool × zab) :=
 bnd (okP (a.length + [123].length <= room)) fun _ =>
 some (((zaR u1 (a ++ [123])).1), (zaR u1 (a ++ [123])).2)
noncomputable def zaI (c1 : Sl Str) (c2 : Int) (kk : Nat) : Nat -> Int -> zab -> Option (Out (Int × zab) (Int × zab))
 | 0, _, _ => none
 | k + 1, s3, s4 =>
   sel (
    bnd (ix c1.l s3) fun (y5 : Str) =>
    bnd (zdV kk y5 s4) fun (r6 : Bool × zab) =>
    sel (
     some (.ret (s3, r6.2))) (
     zaI c1 c2 kk k (IntKind.wrap .i64 (s3 + 1)) r6.2) (r6.1)) (
    some (.done (s3, s4))) (decide (s3 < c2))
noncomputable def zbp (kk : Nat) (a : (Sl Str)) (u1 : zab) : Option (Int × zab) :=
 zgD (zaI a (a.l.length : Int) kk kk 0 u1) (fun r => some r) fun (q7 : Int × zab) =>
  some ((-1), q7.2)
noncomputable def zdU (kk : Nat) (a : Str) (u1 : zab) : Option (Bool × zab) :=
 bnd (okP (a.length + [32].length <= room)) fun _ =>
 some (((zaR u1 (a ++ [32])).1), (zaR u1 (a ++ [32])).2)
noncomputable def zaH (c1 : Sl Str) (c2 : Int) (kk : Nat) : Nat -> Int -> zab -> Option (Out (Int × zab) (Int × zab))
 | 0, _, _ => none
 | k + 1, s3, s4 =>
   sel (
    bnd (ix c1.l s3) fun (y5 : Str) =>
    bnd (zdU kk y5 s4) fun (r6 : Bool × zab) =>
    sel (
     some (.ret (s3, r6.2))) (
     zaH c1 c2 kk k (IntKind.wrap .i64 (s3 + 1)) r6.2) (r6.1)) (
    some (.done (s3, s4))) (decide (s3 < c2))
noncomputable def zbo (kk : Nat) (a : (Sl Str)) (u1 : zab) : Option (Int × zab) :=
 zgD (zaH a (a.l.length : Int) kk kk 0 u1) (fun r => some r) fun (q7 : Int × zab) =>
  some ((-1), q7.2)
end Go.Ev
namespace Go.Ev
open Go.IntKind (wrap)
@[go_sem] theorem zam.setCoeff_self (x : zam) : x.setCoeff x.coeff = x := by cases x; rfl
@[go_sem] theorem zas.setKind_self (x : zas) : x.setKind x.kind = x := by cases x; rfl
attribute [go_sem] Sl.out_l Sl.of_l Sl.nil_l
noncomputable def zbN (c1 : Int) (sz kk : Nat) : Nat -> List zam -> zab -> Option (Out ((Sl zam) × Bool × zab) (List zam × zab))
 | 0, _, _ => none
 | k + 1, s2, s3 =>
   bnd (okP ((s3.rest.length < lim /\ 0 <= c1 /\ c1 <= 8 /\ 4 * (c1 + 1).toNat + 2 < sz))) fun _ =>
   sel (
    some (.ret (Sl.nil, false, (zoj s3 c1).2.2))) (
    bnd (okP ((s2.length + 1) * 32 <= room)) fun _ =>
    sel (
     some (.ret ((Sl.of (s2 ++ [(zoj s3 c1).1])), true, (zaR ((zoj s3 c1).2.2) [32, 43, 32]).2))) (
     zbN c1 sz kk k (s2 ++ [(zoj s3 c1).1]) ((zaR ((zoj s3 c1).2.2) [32, 43, 32]).2)) (!((zaR ((zoj s3 c1).2.2) [32, 43, 32]).1))) (!((zoj s3 c1).2.1))
noncomputable def zdb (kk sz : Nat) (a : zab) (b : Int) : Option ((Sl zam) × Bool × zab) :=
 sel (
  some (Sl.nil, false, a)) (
  sel (
   some (Sl.nil, true, (zaR a [48]).2)) (
   zgD (zbN b sz kk kk [] ((zaR a [48]).2)) (fun r => some r) fun (q6 : List zam × zab) =>
    none) ((zaR a [48]).1)) (decide (b < 0))
noncomputable def zb1 (c14 : Int) (c16 : zam) (sz kk : Nat) : Nat -> zab -> zam -> List zaj -> Option (Out (zam × Bool × zab) (zab × zam × List zaj))
 | 0, _, _, _ => none
 | k + 1, s15, s17, s18 =>
   bnd (okP ((s15.rest.length < lim /\ 0 <= c14 /\ c14 <= 8 /\ 4 * (c14 + 1).toNat + 1 < sz))) fun _ =>
   sel (
    sel (
     bnd (okP (((zaR ((zgQ s15 c14).2.2) [94]).2).rest.length < lim)) fun _ =>
     sel (
      some (.ret ((s17.setFactors (Sl.out s18)), false, (zmb ((zaR ((zgQ s15 c14).2.2) [94]).2)).2.2))) (
      bnd (okP ((s18.length + 1) * 128 <= room)) fun _ =>
      sel (
       some (.ret (((s17.setFactors (Sl.out s18)).setFactors (Sl.of (s18 ++ [(((zaj.zero.setAtom ((zgQ s15 c14).1)).setExp 1).setExp ((zmb ((zaR ((zgQ s15 c14).2.2) [94]).2)).1))]))), true, (zaR ((zmb ((zaR ((zgQ s15 c14).2.2) [94]).2)).2.2) [42]).2))) (
       zb1 c14 c16 sz kk k ((zaR ((zmb ((zaR ((zgQ s15 c14).2.2) [94]).2)).2.2) [42]).2) s17 (s18 ++ [(((zaj.zero.setAtom ((zgQ s15 c14).1)).setExp 1).setExp ((zmb ((zaR ((zgQ s15 c14).2.2) [94]).2)).1))])) (!((zaR ((zmb ((zaR ((zgQ s15 c14).2.2) [94]).2)).2.2) [42]).1))) (!((zmb ((zaR ((zgQ s15 c14).2.2) [94]).2)).2.1))) (
     bnd (okP ((s18.length + 1) * 128 <= room)) fun _ =>
     sel (
      some (.ret (((s17.setFactors (Sl.out s18)).setFactors (Sl.of (s18 ++ [((zaj.zero.setAtom ((zgQ s15 c14).1)).setExp 1)]))), true, (zaR ((zaR ((zgQ s15 c14).2.2) [94]).2) [42]).2))) (
      zb1 c14 c16 sz kk k ((zaR ((zaR ((zgQ s15 c14).2.2) [94]).2) [42]).2) s17 (s18 ++ [((zaj.zero.setAtom ((zgQ s15 c14).1)).setExp 1)])) (!((zaR ((zaR ((zgQ s15 c14).2.2) [94]).2) [42]).1))) ((zaR ((zgQ s15 c14).2.2) [94]).1)) (
    some (.ret ((s17.setFactors (Sl.out s18)), false, (zgQ s15 c14).2.2))) ((zgQ s15 c14).2.1)
noncomputable def zdR (c7 : Int) (c8 : Bool) (c9 : zab) (c10 c11 : zam) (sz kk : Nat) : Option (Out (zam × Bool × zab) (zab × Int)) :=
 sel (
  bnd (okP (c9.rest.length < lim)) fun _ =>
  sel (
   sel (
    some (.ret ((c11.setCoeff ((zmb c9).1)), ((zmb c9).2.1), (zaR ((zmb c9).2.2) [42]).2))) (
    some (.done ((zaR ((zmb c9).2.2) [42]).2, (zmb c9).1))) (!((zaR ((zmb c9).2.2) [42]).1))) (
   some (.ret ((c11.setCoeff ((zmb c9).1)), ((zmb c9).2.1), (zmb c9).2.2))) (!(!((zmb c9).2.1)))) (
  some (.done (c9, c11.coeff))) (c8)
noncomputable def zc1 (c1 : Int) (c2 : zab) (c3 c4 : zam) (sz kk : Nat) : Option (Bool) :=
 sel (
  bnd (c2.rest[0]?) fun (y5 : UInt8) =>
  some ((decide (48 <= (y5.toNat : Int))) && (decide ((y5.toNat : Int) <= 57)))) (
  some false) (!(c2.rest == []))
noncomputable def ze0 (kk sz : Nat) (a : zab) (b : Int) : Option (zam × Bool × zab) :=
 bnd (zc1 b a zam.zero (zam.zero.setCoeff 1) sz kk) fun (q6 : Bool) =>
 zgD (zdR b (q6) a zam.zero (zam.zero.setCoeff 1) sz kk) (fun r => some r) fun (q13 : zab × Int) =>
  zgD (zb1 b zam.zero sz kk kk q13.1 ((zam.zero.setCoeff 1).setCoeff q13.2) []) (fun r => some r) fun (q23 : zab × zam × List zaj) =>
   none
noncomputable def zdS (c1 : Int) (c2 : zab) (c3 c4 : zas) (sz kk : Nat) : Option (zab × Int) := zsk c2 c4
noncomputable def ze1 (kk sz : Nat) (a : zab) (b : Int) : Option (zas × Bool × zab) :=
 bnd (zdS b a zas.zero zas.zero sz kk) fun (q5 : zab × Int) =>
 sel (
  bnd (okP (q5.1.rest.length < lim /\ [116, 46, 48, 49, 50, 51, 52, 53, 54, 55, 56, 57].length < lim /\ zKZ [116, 46, 48, 49, 50, 51, 52, 53, 54, 55, 56, 57] = true)) fun _ =>
  bnd (okP (((zne q5.1 [116, 46, 48, 49, 50, 51, 52, 53, 54, 55, 56, 57]).1).length < lim)) fun _ =>
  some (((zas.zero.setKind q5.2).setRow ((ziT ((zne q5.1 [116, 46, 48, 49, 50, 51, 52, 53, 54, 55, 56, 57]).1)).1)), (((ziT ((zne q5.1 [116, 46, 48, 49, 50, 51, 52, 53, 54, 55, 56, 57]).1)).2) == 0), (zne q5.1 [116, 46, 48, 49, 50, 51, 52, 53, 54, 55, 56, 57]).2)) (
  sel (
   bnd (okP ((q5.1.rest.length < lim /\ (zas.zero.setKind q5.2) = zas.zero.setKind 4 /\ 0 <= b /\ b <= 8 /\ 4 * (b + 1).toNat < sz))) fun _ =>
   sel (
    some (((zds q5.1 (zas.zero.setKind q5.2) b).2.2.setItems (Sl.out (((zds q5.1 (zas.zero.setKind q5.2) b).2.2).items.l))), ((zaR ((zds q5.1 (zas.zero.setKind q5.2) b).2.1) [93]).1), (zaR ((zds q5.1 (zas.zero.setKind q5.2) b).2.1) [93]).2)) (
    some (((zds q5.1 (zas.zero.setKind q5.2) b).2.2.setItems (Sl.out (((zds q5.1 (zas.zero.setKind q5.2) b).2.2).items.l))), false, (zds q5.1 (zas.zero.setKind q5.2) b).2.1)) ((zds q5.1 (zas.zero.setKind q5.2) b).1)) (
   bnd (okP ((q5.1.rest.length < lim /\ -1 <= (wrap .i64 (b - 1)) /\ (wrap .i64 (b - 1)) <= 8 /\ 4 * ((wrap .i64 (b - 1)) + 1).toNat + 3 < sz))) fun _ =>
   sel (
    sel (
     bnd (okP ((((zaR ((zc4 q5.1 (wrap .i64 (b - 1))).2.2) [44, 32]).2).rest.length < lim /\ -1 <= (wrap .i64 (b - 1)) /\ (wrap .i64 (b - 1)) <= 8 /\ 4 * ((wrap .i64 (b - 1)) + 1).toNat + 3 < sz))) fun _ =>
     sel (
      some ((((zas.zero.setKind q5.2).setArgs (Sl.of [(zc4 q5.1 (wrap .i64 (b - 1))).1, (zc4 ((zaR ((zc4 q5.1 (wrap .i64 (b - 1))).2.2) [44, 32]).2) (wrap .i64 (b - 1))).1])).setArgs (Sl.of [(zc4 q5.1 (wrap .i64 (b - 1))).1, (zc4 ((zaR ((zc4 q5.1 (wrap .i64 (b - 1))).2.2) [44, 32]).2) (wrap .i64 (b - 1))).1])), ((zaR ((zc4 ((zaR ((zc4 q5.1 (wrap .i64 (b - 1))).2.2) [44, 32]).2) (wrap .i64 (b - 1))).2.2) [93]).1), (zaR ((zc4 ((zaR ((zc4 q5.1 (wrap .i64 (b - 1))).2.2) [44, 32]).2) (wrap .i64 (b - 1))).2.2) [93]).2)) (
      some ((((zas.zero.setKind q5.2).setArgs (Sl.of [(zc4 q5.1 (wrap .i64 (b - 1))).1, (zc4 ((zaR ((zc4 q5.1 (wrap .i64 (b - 1))).2.2) [44, 32]).2) (wrap .i64 (b - 1))).1])).setArgs (Sl.of [(zc4 q5.1 (wrap .i64 (b - 1))).1, (zc4 ((zaR ((zc4 q5.1 (wrap .i64 (b - 1))).2.2) [44, 32]).2) (wrap .i64 (b - 1))).1])), false, (zc4 ((zaR ((zc4 q5.1 (wrap .i64 (b - 1))).2.2) [44, 32]).2) (wrap .i64 (b - 1))).2.2)) ((zc4 ((zaR ((zc4 q5.1 (wrap .i64 (b - 1))).2.2) [44, 32]).2) (wrap .i64 (b - 1))).2.1)) (
     some (((zas.zero.setKind q5.2).setArgs (Sl.of [(zc4 q5.1 (wrap .i64 (b - 1))).1])), false, (zaR ((zc4 q5.1 (wrap .i64 (b - 1))).2.2) [44, 32]).2)) ((zaR ((zc4 q5.1 (wrap .i64 (b - 1))).2.2) [44, 32]).1)) (
    sel (
     some (((zas.zero.setKind q5.2).setArgs (Sl.of [(zc4 q5.1 (wrap .i64 (b - 1))).1])), ((zaR ((zc4 q5.1 (wrap .i64 (b - 1))).2.2) [93]).1), (zaR ((zc4 q5.1 (wrap .i64 (b - 1))).2.2) [93]).2)) (
     some (((zas.zero.setKind q5.2).setArgs (Sl.of [(zc4 q5.1 (wrap .i64 (b - 1))).1])), false, (zc4 q5.1 (wrap .i64 (b - 1))).2.2)) ((zc4 q5.1 (wrap .i64 (b - 1))).2.1)) (((zc4 q5.1 (wrap .i64 (b - 1))).2.1) && (q5.2 == 1))) (q5.2 == 4)) (q5.2 == 0)
noncomputable def zb0 (c2 : Int) (sz kk : Nat) : Nat -> zab -> zas -> List zae -> Option (Out (Bool × zab × zas) (zab × zas × List zae))
 | 0, _, _, _ => none
 | k + 1, s3, s4, s5 =>
   sel (
    bnd (okP (s3.rest.length < lim)) fun _ =>
    sel (
     sel (
      some (.ret (false, (zaR ((zlK s3).2.2) [58, 32]).2, (s4.setItems (Sl.out s5))))) (
      bnd (okP ((((zaR ((zlK s3).2.2) [58, 32]).2).rest.length < lim /\ -1 <= (wrap .i64 (c2 - 1)) /\ (wrap .i64 (c2 - 1)) <= 8 /\ 4 * ((wrap .i64 (c2 - 1)) + 1).toNat + 3 < sz))) fun _ =>
      sel (
       some (.ret (false, (zc4 ((zaR ((zlK s3).2.2) [58, 32]).2) (wrap .i64 (c2 - 1))).2.2, (s4.setItems (Sl.out s5))))) (
       bnd (okP ((s5.length + 1) * 56 <= room)) fun _ =>
       sel (
        some (.done ((zaR ((zc4 ((zaR ((zlK s3).2.2) [58, 32]).2) (wrap .i64 (c2 - 1))).2.2) [59, 32]).2, s4, (s5 ++ [((zae.zero.setValue ((zlK s3).1)).setAnn ((zc4 ((zaR ((zlK s3).2.2) [58, 32]).2) (wrap .i64 (c2 - 1))).1))])))) (
        zb0 c2 sz kk k ((zaR ((zc4 ((zaR ((zlK s3).2.2) [58, 32]).2) (wrap .i64 (c2 - 1))).2.2) [59, 32]).2) s4 (s5 ++ [((zae.zero.setValue ((zlK s3).1)).setAnn ((zc4 ((zaR ((zlK s3).2.2) [58, 32]).2) (wrap .i64 (c2 - 1))).1))])) (!((zaR ((zc4 ((zaR ((zlK s3).2.2) [58, 32]).2) (wrap .i64 (c2 - 1))).2.2) [59, 32]).1))) (!((zc4 ((zaR ((zlK s3).2.2) [58, 32]).2) (wrap .i64 (c2 - 1))).2.1))) (!((zaR ((zlK s3).2.2) [58, 32]).1))) (
     some (.ret (false, (zlK s3).2.2, (s4.setItems (Sl.out s5))))) (!(!((zlK s3).2.1)))) (
    some (.done (s3, s4, s5))) (decide (0 <= s4.func))
noncomputable def zdy (kk sz : Nat) (a : zab) (b : zas) (c : Int) : Option (Bool × zab × zas) :=
 bnd (okP (zyf (zly))) fun _ =>
 zgD (zb0 c sz kk kk ((zHN (zly) a).2) (b.setFunc ((zHN (zly) a).1)) []) (fun r => some r) fun (q9 : zab × zas × List zae) =>
  sel (
   sel (
    some (false, (zaR q9.1 [125, 32]).2, (q9.2.1.setItems (Sl.out q9.2.2)))) (
    bnd (okP (zyf (zgZ))) fun _ =>
    bnd (okP (((zxn (zgZ) ((zaR q9.1 [125, 32]).2)).2).rest.length < lim)) fun _ =>
    some (((decide (0 <= ((zxn (zgZ) ((zaR q9.1 [125, 32]).2)).1))) && ((zlK ((zxn (zgZ) ((zaR q9.1 [125, 32]).2)).2)).2.1)), (zlK ((zxn (zgZ) ((zaR q9.1 [125, 32]).2)).2)).2.2, (((q9.2.1.setItems (Sl.out q9.2.2)).setOp (wrap .i64 (5 + ((zxn (zgZ) ((zaR q9.1 [125, 32]).2)).1)))).setBound ((zlK ((zxn (zgZ) ((zaR q9.1 [125, 32]).2)).2)).1)))) (!((zaR q9.1 [125, 32]).1))) (
   some (false, q9.1, (q9.2.1.setItems (Sl.out q9.2.2)))) (!(decide (q9.2.1.func < 0)))
end Go.Ev
namespace Go.Ev
def ziv (a : Sl zam) : Str := if zb2 a then zcu a else []
def zNE : Bool := true
noncomputable def zig (kk : Nat) (a : Str) : Option ((Sl zam) × Int) :=
 bnd (okP (((zab.zero.setRest a).rest.length < lim /\ -1 <= (8 : Int) /\ (8 : Int) <= 8 /\ 4 * ((8 : Int) + 1).toNat + 3 < big - 1))) fun _ =>
 sel (
  bnd (okP (20 * zak ((zc4 (zab.zero.setRest a) 8).1).l + 1 < big - 1)) fun _ =>
  sel (
   bnd (okP ((zdp ((zc4 (zab.zero.setRest a) 8).1).l = true /\ zbB ((zc4 (zab.zero.setRest a) 8).1).l /\ zak ((zc4 (zab.zero.setRest a) 8).1).l < lim /\ 4 * zak ((zc4 (zab.zero.setRest a) 8).1).l + 1 < big - 1))) fun _ =>
   sel (
    some (Sl.nil, 3)) (
    some ((zc4 (zab.zero.setRest a) 8).1, 0)) (!((zcu ((zc4 (zab.zero.setRest a) 8).1)) == a))) (
   some (Sl.nil, 3)) (!(!((zb2 ((zc4 (zab.zero.setRest a) 8).1)))))) (
  some (Sl.nil, 3)) (!((!((zc4 (zab.zero.setRest a) 8).2.1)) || (!((((zc4 (zab.zero.setRest a) 8).2.2).rest) == []))))
noncomputable def zhO (kk : Nat) (a : (Sl zam)) : Option (Str) :=
 bnd (okP (20 * zak a.l + 1 < big - 1)) fun _ =>
 sel (
  some []) (
  bnd (okP ((zdp a.l = true /\ zbB a.l /\ zak a.l < lim /\ 4 * zak a.l + 1 < big - 1))) fun _ =>
  some (zcu a)) (!((zb2 a)))
noncomputable def zoD (kk : Nat) (a : (Sl zam)) : Option (Str) :=
 bnd (okP (zak a.l < big - 1)) fun _ =>
 sel (
  some []) (
  bnd (okP ((zdp a.l = true /\ zbB a.l /\ zak a.l < lim /\ 4 * zak a.l + 1 < big - 1))) fun _ =>
  some (zcu a)) (!((zb2 a)))
def zoc (l : List Val) : Nat := zgf (fun v => v.text.length + 1) l
def zE5 (a : Sl Val) (n : Int) : Bool := a.l.all (fun v => decide (v.text.length <= 300)) && decide ((a.l.length : Int) <= n)
def ztl (a b : Sl Val) : Int := zwY zfd a.l b.l
def zs7 (a b : Sl Val) : Bool := ztl a b == 0
noncomputable def zhI (c1 : Sl Val) (c2 : Int) (kk : Nat) : Nat -> Int -> Option (Out (Bool) (Int))
 | 0, _ => none
 | k + 1, s3 =>
   sel (
    bnd (ix c1.l s3) fun (y4 : Val) =>
    sel (
     some (.ret false)) (
     zhI c1 c2 kk k (IntKind.wrap .i64 (s3 + 1))) (decide (300 < (y4.text.length : Int)))) (
    some (.done s3)) (decide (s3 < (c1.l.length : Int)))
noncomputable def zq5 (kk : Nat) (a : (Sl Val)) (b : Int) : Option (Bool) :=
 zgD (zhI a b kk kk 0) (fun r => some r) fun (q5 : Int) =>
  some (decide ((a.l.length : Int) <= b))
noncomputable def zf5 (c1 c2 : Sl Val) (kk : Nat) : Nat -> Int -> Option (Out (Int) (Int))
 | 0, _ => none
 | k + 1, s3 =>
   sel (
    bnd (ix c1.l s3) fun (y4 : Val) =>
    bnd (ix c2.l s3) fun (y5 : Val) =>
    sel (
     some (.ret (zfd y4 y5))) (
     zf5 c1 c2 kk k (IntKind.wrap .i64 (s3 + 1))) ((zfd y4 y5) != 0)) (
    some (.done s3)) ((decide (s3 < (c1.l.length : Int))) && (decide (s3 < (c2.l.length : Int))))
noncomputable def zi9 (kk : Nat) (a : (Sl Val)) (b : (Sl Val)) : Option (Int) :=
 zgD (zf5 a b kk kk 0) (fun r => some r) fun (q6 : Int) =>
  sel (
   some 0) (
   some (sgn (decide ((a.l.length : Int) < (b.l.length : Int))))) ((a.l.length : Int) == (b.l.length : Int))
noncomputable def ztv (kk : Nat) (a : (Sl Val)) (b : (Sl Val)) : Option (Bool) :=
 bnd (okP (a.l.length < big - 1 /\ b.l.length < big - 1)) fun _ =>
 some ((ztl a b) == 0)
theorem zp3 (v : Val) (l : List Val) : zoc (v :: l) = v.text.length + 1 + zoc l := rfl
theorem zmZ (l : List Val) : l.length <= zoc l := by
 induction l with
 | nil => exact yi _
 | cons v l ih => rw [zp3, yC]; omega
-- the reference's hash
-- the program's hash
-- keys
-- buckets
-- few
theorem zB5 {kk : Nat} (a : Sl Val) (b : Int) (h : a.l.length < big - 1) (hk : kk = big := by rfl) : zq5 kk a b = some (zE5 a b) := by
 subst hk
 unfold zq5 zE5
 rw [zkt (xs := a.l) (L := zhI a b big) (fun v => !decide (v.text.length <= 300)) false (fun k => by simp [zhI]) (fun k i x hi ex => ?_) YJ, zll]
 · generalize a.l.all _ = u; cases u <;> rfl
 · simp only [zhI, zdC, YH hi, zat, zbE, ex, zad]
   rw [zaF YJ]
   by_cases c : x.text.length <= 300
   · rw [YH c, YI YJ]; rfl
   · rw [YI c, YH YJ]; rfl
-- sameness
theorem ztP {kk : Nat} (a b : Sl Val) (h : a.l.length < big - 1 /\ b.l.length < big - 1) (hk : kk = big := by rfl) : zi9 kk a b = some (ztl a b) := by
 subst hk
 obtain ⟨j, hj⟩ := zLP (L := zf5 a b big) (xs := a.l) (ys := b.l) (f := zfd) (fun x y R => sel (some (.ret (zfd x y))) R (zfd x y != 0)) (fun k i => rfl) (fun i x y R _ _ => by
  rw [zw9]) YJ big 0 (yi _) (yi _) YJ
 rw [show ((0 : Nat) : Int) = 0 from rfl, yg, yg] at hj
 unfold zi9 ztl
 rw [hj, zD8]
 by_cases e : zh4 zfd a.l b.l = 0
 · rw [if_pos e, zFz e, za5]
   by_cases l1 : a.l.length = b.l.length
   · rw [l1]; simp [zfR, sel]
   · have : ((a.l.length : Int) == (b.l.length : Int)) = false := by simp; omega
     rw [this, zaC]
     unfold zfR sgn
     by_cases l2 : a.l.length < b.l.length
     · rw [YH (show (a.l.length : Int) < b.l.length by omega), if_pos rfl, if_pos YJ]
     · rw [YI (show ¬ (a.l.length : Int) < b.l.length by omega), if_neg (by simp), if_neg YJ, if_pos YJ]
 · rw [if_neg e, zz7 e]; rfl
theorem zEw {kk : Nat} (a b : Sl Val) (h : a.l.length < big - 1 /\ b.l.length < big - 1) : ztv kk a b = some (zs7 a b) := by
 unfold ztv
 rw [zar h, zad]; rfl
-- the law
end Go.Ev
