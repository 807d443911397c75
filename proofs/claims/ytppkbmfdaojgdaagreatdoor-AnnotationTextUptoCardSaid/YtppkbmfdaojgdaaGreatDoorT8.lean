/- AnnotationText: for every annotation and string that hold together at most 1048576 values and letters, the law returns true. Condition: that bound (the Upto form). -/
import Derived.Lib.Replace
import Derived.Lib.IndexMore
import Derived.Lib.SlTrimSet
import Derived.Test.YtppkbmfdaojgdaaGreatDoorT7
set_option linter.all false
namespace Go.Ev
def zIv (te : TypeId) (b : Bool) : D := if b then .nili else .iface te .unk
theorem zDi (te : TypeId) (b : Bool) : zwf (zIv te b) = true := by cases b <;> rfl
@[go_sem] theorem zRQ (te : TypeId) (b : Bool) : zx5 true (zIv te b) .nili .iface = some b := by cases b <;> rfl
@[go_sem] theorem zRS (P : Program) (op : BinOp) (t : TypeId) (c : Bool) (te : TypeId) (b : Bool) : zGw P op t c (zIv te b) .nili = zGq P t c (zIv te b) .nili op := by cases b <;> rfl
@[go_sem] theorem zTm (P : Program) (t : TypeId) (c : Bool) (te : TypeId) (b : Bool) : deq P t c (zIv te b) .nili = bnd (kOf P t) (zx5 c (zIv te b) .nili) := by cases b <;> rfl
def lim : Nat := 4294967281
def zv4 (s old new : Str) : Prop := s.length < lim ∧ 1 ≤ old.length ∧ s.length + Lib.count s old * new.length ≤ zdd
instance (s old new : Str) : Decidable (zv4 s old new) := inferInstanceAs (Decidable (_ ∧ _))
def zlX (s old new : Str) : Str := Lib.replaceAll s old new
def zkf : List D → Option D
 | [.str s, .str old, .str new] => if zv4 s old new then some (.str (zlX s old new)) else none
 | _ => none
theorem zl1 (s old new : Str) (h : zv4 s old new) : zkf [.str s, .str old, .str new] = some (.str (zlX s old new)) := by simp only [zkf, h, if_true]
def zL0 (s sub : Str) : Bool := Lib.contains s sub
def zoc : List D → Option D
 | [.str s, .str sub] => if s.length < lim then some (.bool (zL0 s sub)) else none
 | _ => none
theorem zA1 (s sub : Str) (h : s.length < lim) : zoc [.str s, .str sub] = some (.bool (zL0 s sub)) := by simp only [zoc, h, if_true]
def zBC (s sep : Str) : Str × Str × Bool := Lib.cut s sep
def zOp : List D → Option D
 | [.str s, .str sep] => if s.length < lim then some (.tup [.str (zBC s sep).1, .str (zBC s sep).2.1, .bool (zBC s sep).2.2]) else none
 | _ => none
theorem zLP (s sep : Str) (h : s.length < lim) : zOp [.str s, .str sep] = some (.tup [.str (zBC s sep).1, .str (zBC s sep).2.1, .bool (zBC s sep).2.2]) := by simp only [zOp, h, if_true]
def zFN (s set : Str) : Prop := 0 < s.length ∧ s.length < lim ∧ 2 ≤ set.length ∧ set.length < lim ∧ (set.all fun b => decide (b.toNat < 128)) = true
instance (s set : Str) : Decidable (zFN s set) := inferInstanceAs (Decidable (_ ∧ _))
def trimS (s set : Str) : Str := Lib.trimS s set
def zHf : List D → Option D
 | [.str s, .str set] => if zFN s set then some (.str (trimS s set)) else none
 | _ => none
theorem zCS (s set : Str) (h : zFN s set) : zHf [.str s, .str set] = some (.str (trimS s set)) := by simp only [zHf, h, if_true]
def znu (s : Str) (_ _ : Int) : Int × Bool := zi8 s
def zu9 (s : Str) (b z : Int) : Prop := s.length < lim ∧ b = 10 ∧ z = 64
instance (s : Str) (b z : Int) : Decidable (zu9 s b z) := inferInstanceAs (Decidable (_ ∧ _))
def zob (te : TypeId) : List D → Option D
 | [.str s, .int .i64 b, .int .i64 z] => if zu9 s b z then some (.tup [.int .i64 (znu s b z).1, zIv te (znu s b z).2]) else none
 | _ => none
theorem ztO (te : TypeId) (s : Str) (b z : Int) (h : zu9 s b z) : zob te [.str s, .int .i64 b, .int .i64 z] = some (.tup [.int .i64 (znu s b z).1, zIv te (znu s b z).2]) := by simp only [zob, h, if_true]
def zHm (te : TypeId) : List D → Option D
 | [.str s] => if s.length < lim then some (.tup [.int .i64 (zi8 s).1, zIv te (zi8 s).2]) else none
 | _ => none
theorem zJr (te : TypeId) (s : Str) (h : s.length < lim) : zHm te [.str s] = some (.tup [.int .i64 (zi8 s).1, zIv te (zi8 s).2]) := by simp only [zHm, h, if_true]
def zt1 (n _b : Int) : Str := zb7 n
theorem zny {old : Str} {b : UInt8} {s : Str} (h : old.isPrefixOf (b :: s) = true) : Lib.index (b :: s) old = 0 := by rw [Lib.index, if_pos h]
theorem zl6 {old : Str} {b : UInt8} {s : Str} (h : old.isPrefixOf (b :: s) = false) : Lib.index (b :: s) old = if Lib.index s old == -1 then -1 else Lib.index s old + 1 := by
 rw [Lib.index, if_neg (by rw [h]; exact Bool.false_ne_true)]
theorem zxx {s old new : Str} (hne : old ≠ new) : zlX s old new = Lib.replaceK old new (Lib.count s old) s := by
 unfold zlX Lib.replaceAll Lib.replace
 rw [if_neg (by simpa using hne)]
 unfold Lib.replaceNum
 rw [if_pos (by omega)]
theorem zJL {old : Str} (h0 : old ≠ []) : Lib.index [] old = -1 := by
 cases old with
 | nil => exact absurd rfl h0
 | cons b o => simp [Lib.index]
theorem zrO {old new : Str} (h0 : old ≠ []) (hne : old ≠ new) : zlX [] old new = [] := by
 rw [zxx hne, Lib.count_miss (zJL h0)]; rfl
theorem zAM {old new : Str} {b : UInt8} {s : Str} (h0 : old ≠ []) (hne : old ≠ new) (h : old.isPrefixOf (b :: s) = true) : zlX (b :: s) old new = new ++ zlX ((b :: s).drop old.length) old new := by
 have hi : Lib.index (b :: s) old = ((0 : Nat) : Int) := zny h
 rw [zxx hne, zxx hne, Lib.count_hit h0 hi, Nat.zero_add, Nat.add_comm 1, Lib.replaceK_hit _ _ _ _ 0 hi, Nat.zero_add]
 simp
theorem ztI {old new : Str} {b : UInt8} {s : Str} (h0 : old ≠ []) (hne : old ≠ new) (h : old.isPrefixOf (b :: s) = false) : zlX (b :: s) old new = b :: zlX s old new := by
 rw [zxx hne, zxx hne]
 have hc := zl6 h
 have hge := Lib.index_ge s old
 by_cases hm : Lib.index s old = -1
 · rw [hm] at hc
   have hc : Lib.index (b :: s) old = -1 := by rw [hc]; rfl
   rw [Lib.count_miss hc, Lib.count_miss hm]; rfl
 · obtain ⟨i, hi⟩ : ∃ i : Nat, Lib.index s old = i := ⟨(Lib.index s old).toNat, by omega⟩
   rw [hi] at hc
   have hc : Lib.index (b :: s) old = ((i + 1 : Nat) : Int) := by
    rw [hc, if_neg (by intro e; have := eq_of_beq e; omega)]; omega
   have e1 := Lib.count_hit h0 hc
   have e2 := Lib.count_hit h0 hi
   have e3 : (b :: s).drop (i + 1 + old.length) = s.drop (i + old.length) := by rw [show i + 1 + old.length = (i + old.length) + 1 by omega]; rfl
   rw [e3] at e1
   rw [e1, e2, Nat.add_comm 1, Lib.replaceK_hit _ _ _ _ _ hc, Lib.replaceK_hit _ _ _ _ _ hi, e3]
   simp
theorem zG4 (s : Str) : zlX s [39] [39, 39] = zsZ s := by
 induction s with
 | nil => exact zrO (by decide) (by decide)
 | cons b s ih =>
   rw [zog]
   by_cases h : b = 39
   · subst h
     rw [if_pos rfl, zAM (by decide) (by decide) (by simp [List.isPrefixOf]), ← ih]; rfl
   · rw [if_neg h, ztI (by decide) (by decide) (by simp [List.isPrefixOf]; exact fun e => h e.symm), ih]
theorem zzY (a b c d : UInt8) (s : Str) : List.isPrefixOf [a, b] (c :: d :: s) = (decide (c = a ∧ d = b)) := by
 simp [List.isPrefixOf]
 by_cases h : c = a
 · by_cases k : d = b
   · subst h; subst k; simp
   · have : ¬ b = d := fun e => k e.symm
     simp [k, this]
 · have : ¬ a = c := fun e => h e.symm
   simp [h, this]
theorem zzT (new : Str) (hne : ([39, 39] : Str) ≠ new) : ∀ (n : Nat) (s : Str), s.length ≤ n → (new = [39] → zlX s [39, 39] new = zlV s) ∧ (new = [] → zL0 (zlX s [39, 39] new) [39] = !zvo s) := by
 have has1 : ∀ (b : UInt8) (s : Str), zL0 (b :: s) [39] = (b == 39 || zL0 s [39]) := by
  intro b s
  unfold zL0 Lib.contains
  by_cases h : b = 39
  · subst h; rw [zny (by simp [List.isPrefixOf])]; rfl
  · rw [zl6 (by simp [List.isPrefixOf]; exact fun e => h e.symm)]
    have hb : (b == 39) = false := by simpa using h
    have hge := Lib.index_ge s [39]
    rw [hb, Bool.false_or]
    split
    · rename_i e; rw [eq_of_beq e]
    · rename_i e
      have : Lib.index s [39] ≠ -1 := by simpa using e
      rw [decide_eq_true (by omega), decide_eq_true (by omega)]
 have has0 : zL0 [] [39] = false := rfl
 intro n
 induction n with
 | zero =>
   intro s hs
   obtain rfl : s = [] := List.length_eq_zero_iff.1 (by omega)
   rw [zrO (by decide) hne]
   exact ⟨fun _ => rfl, fun _ => rfl⟩
 | succ n ih =>
   intro s hs
   match s with
   | [] => rw [zrO (by decide) hne]; exact ⟨fun _ => rfl, fun _ => rfl⟩
   | [b] =>
     rw [ztI (by decide) hne (by simp [List.isPrefixOf]), zrO (by decide) hne]
     refine ⟨fun _ => rfl, fun _ => ?_⟩
     rw [has1, has0, zvo, Bool.or_false]; simp [bne]
   | b :: c :: t =>
     simp only [List.length_cons] at hs
     by_cases h : b = 39 ∧ c = 39
     · have e := zzY 39 39 b c t
       rw [decide_eq_true h] at e
       rw [zAM (by decide) hne e]
       obtain ⟨i1, i2⟩ := ih t (by omega)
       rw [zlV, if_pos h, zvo, if_pos h]
       refine ⟨fun hn => ?_, fun hn => ?_⟩
       · rw [← i1 hn, hn]; rfl
       · rw [← i2 hn, hn]; rfl
     · have e := zzY 39 39 b c t
       rw [decide_eq_false h] at e
       rw [ztI (by decide) hne e]
       obtain ⟨i1, i2⟩ := ih (c :: t) (by simp; omega)
       rw [zlV, if_neg h, zvo, if_neg h]
       refine ⟨fun hn => by rw [i1 hn], fun hn => ?_⟩
       rw [has1, i2 hn]
       cases hb : (b == 39)
       · have : (b != 39) = true := by simpa using hb
         rw [this]; rfl
       · have : (b != 39) = false := by simpa using hb
         rw [this]; rfl
theorem zG3 (s : Str) : zlX s [39, 39] [39] = zlV s := (zzT [39] (by decide) s.length s (Nat.le_refl _)).1 rfl
theorem zLZ (s : Str) : zL0 (zlX s [39, 39] []) [39] = !zvo s := (zzT [] (by decide) s.length s (Nat.le_refl _)).2 rfl
theorem zN6 (s : Str) : zBC s [46] = zkJ s := by
 unfold zBC Lib.cut zkJ
 induction s with
 | nil => rfl
 | cons b s ih =>
   by_cases h : b = 46
   · subst h; rw [zny (by simp [List.isPrefixOf])]; simp
   · have hb : (b != 46) = true := by simpa using h
     have hb2 : (46 == b) = false := by simp; exact fun e => h e.symm
     rw [zl6 (by simp [List.isPrefixOf]; exact fun e => h e.symm)]
     have hge := Lib.index_ge s [46]
     simp only [List.takeWhile_cons, List.dropWhile_cons, hb, if_true, List.contains_cons, hb2, Bool.false_or]
     by_cases hm : Lib.index s [46] = -1
     · rw [hm] at ih ⊢
       simp only [show ¬ (0 : Int) ≤ -1 by omega, if_false, Prod.mk.injEq] at ih
       simp only [beq_self_eq_true, if_true, show ¬ (0 : Int) ≤ -1 by omega, if_false, Prod.mk.injEq]
       exact ⟨by rw [← ih.1], ih.2.1, ih.2.2⟩
     · obtain ⟨i, hi⟩ : ∃ i : Nat, Lib.index s [46] = i := ⟨(Lib.index s [46]).toNat, by omega⟩
       rw [hi] at ih ⊢
       rw [if_pos (by omega)] at ih
       simp only [Prod.mk.injEq] at ih
       have e2 : (if ((i : Int) == -1) = true then (-1 : Int) else (i : Int) + 1) = ((i + 1 : Nat) : Int) := by rw [if_neg (by intro e; have := eq_of_beq e; omega)]; omega
       rw [e2, if_pos (by omega), Int.toNat_natCast]
       simp only [Prod.mk.injEq]
       refine ⟨?_, ?_, ih.2.2⟩
       · rw [List.take_succ_cons, ← ih.1]; simp
       · rw [← ih.2.1]; simp
theorem zEp {s : Str} : (trimS s zcD == []) = s.all fun b => zcD.contains b := by
 unfold trimS Lib.trimS Lib.trimLeftS Lib.trimRightS
 have h1 : ∀ l : Str, (l.dropWhile (zcD.contains ·) = []) ↔ ∀ b ∈ l, zcD.contains b = true := by
  intro l
  induction l with
  | nil => simp
  | cons b l ih =>
    rw [List.dropWhile_cons]
    split
    · rename_i hb
      rw [ih]
      exact ⟨fun h c hc => by rcases List.mem_cons.1 hc with rfl | hc; exact hb; exact h c hc, fun h c hc => h c (List.mem_cons_of_mem _ hc)⟩
    · rename_i hb; simp; intro h; exact absurd h (by simpa using hb)
 rw [Bool.eq_iff_iff, beq_iff_eq, List.all_eq_true, h1]
 constructor
 · intro h b hb
   by_cases hd : zcD.contains b = true
   · exact hd
   · exfalso
     have key : ∀ l : Str, (∃ b ∈ l, ¬ zcD.contains b = true) → ∃ b ∈ l.dropWhile (zcD.contains ·), ¬ zcD.contains b = true := by
      intro l
      induction l with
      | nil => rintro ⟨b, hb, _⟩; simp at hb
      | cons c l ih =>
        rintro ⟨b, hb, hd⟩
        rw [List.dropWhile_cons]
        split
        · rename_i hc
          rcases List.mem_cons.1 hb with rfl | hb
          · exact absurd hc hd
          · exact ih ⟨b, hb, hd⟩
        · exact ⟨b, hb, hd⟩
     obtain ⟨c, hc, hcd⟩ := key s.reverse ⟨b, by simpa using hb, hd⟩
     exact hcd (h c (by simpa using hc))
 · intro h b hb
   refine h b ?_
   have := (List.dropWhile_sublist (zcD.contains ·) (l := s.reverse)).subset (a := b) (by simpa using hb)
   simpa using this
def zxH : List D → Option D
 | [] => some (.bool true)
 | _ => none
theorem zHl : zxH [] = some (.bool true) := rfl
end Go.Ev
set_option linter.unusedVariables false
namespace Go.Ev
def zyW (a : Int) : Str := zAc 20 a.toNat
def opS (a : Int) : Str := nth zc1 (a - 5)
def zkw : Sl Str := Sl.of zc9
def zgC : Sl Str := Sl.of zc1
def zrN (r : zbw) : Str := 116 :: (zb7 r.table ++ 46 :: zb7 r.seq)
noncomputable def znm (kk : Nat) (sz : Nat) (a : Int) : Option (Str) :=
 sel (
  some (b2s [(IntKind.wrap .u8 (IntKind.wrap .u64 (48 + a)))])) (
  bnd (okP ((0 ≤ (IntKind.wrap .u64 (a.tdiv 10)) ∧ (IntKind.wrap .u64 (a.tdiv 10)) ≤ 18446744073709551615 ∧ (zyW (IntKind.wrap .u64 (a.tdiv 10))).length < sz))) fun _ =>
  bnd (okP ((zyW (IntKind.wrap .u64 (a.tdiv 10))).length + (b2s [(IntKind.wrap .u8 (IntKind.wrap .u64 (48 + (a.tmod 10))))]).length ≤ zdd)) fun _ =>
  some ((zyW (IntKind.wrap .u64 (a.tdiv 10))) ++ (b2s [(IntKind.wrap .u8 (IntKind.wrap .u64 (48 + (a.tmod 10))))]))) (decide (a < 10))
noncomputable def zlH (kk : Nat) (a : Int) : Option (Str) :=
 sel (
  bnd (okP (0 ≤ (IntKind.wrap .u64 (0 - (IntKind.wrap .u64 a))) ∧ (IntKind.wrap .u64 (0 - (IntKind.wrap .u64 a))) ≤ 18446744073709551615 ∧ (zyW (IntKind.wrap .u64 (0 - (IntKind.wrap .u64 a)))).length < big - 1)) fun _ =>
  bnd (okP ([45].length + (zyW (IntKind.wrap .u64 (0 - (IntKind.wrap .u64 a)))).length ≤ zdd)) fun _ =>
  some (45 :: (zyW (IntKind.wrap .u64 (0 - (IntKind.wrap .u64 a)))))) (
  bnd (okP (0 ≤ (IntKind.wrap .u64 a) ∧ (IntKind.wrap .u64 a) ≤ 18446744073709551615 ∧ (zyW (IntKind.wrap .u64 a)).length < big - 1)) fun _ =>
  some (zyW (IntKind.wrap .u64 a))) (decide (a < 0))
noncomputable def zgq (c4 : Val) (kk : Nat) : Nat → Str → Int → Option (Out (Str) (Str × Int))
 | 0, _, _ => none
 | k + 1, s2, s3 =>
   sel (
    bnd (zzO c4.text (some s3) (some (IntKind.wrap .i64 (s3 + 1)))) fun (y5 : Str) =>
    bnd (okP (s2.length + y5.length ≤ zdd)) fun _ =>
    bnd (ix c4.text s3) fun (y7 : UInt8) =>
    sel (
     bnd (okP ((s2 ++ y5).length + [39].length ≤ zdd)) fun _ =>
     zgq c4 kk k ((s2 ++ y5) ++ [39]) (IntKind.wrap .i64 (s3 + 1))) (
     zgq c4 kk k (s2 ++ y5) (IntKind.wrap .i64 (s3 + 1))) ((y7.toNat : Int) == 39)) (
    some (.done (s2, s3))) (decide (s3 < (c4.text.length : Int)))
noncomputable def znl (kk : Nat) (a : Val) : Option (Str) :=
 sel (
  some []) (
  sel (
   bnd (okP (zld a.int)) fun _ =>
   some (zb7 a.int)) (
   sel (
    sel (
     some [84, 82, 85, 69]) (
     some [70, 65, 76, 83, 69]) (a.int == 1)) (
    zhy (zgq a kk kk [39] 0) (fun r => some r) fun (q9 : Str × Int) =>
     bnd (okP (q9.1.length + [39].length ≤ zdd)) fun _ =>
     some (q9.1 ++ [39])) (a.kind == 2)) (a.kind == 0)) (!((zbS a)))
noncomputable def zkC (kk : Nat) (a : Int) : Option (Str) :=
 bnd (ix [[67, 79, 85, 78, 84], [83, 85, 77], [77, 73, 78], [77, 65, 88]] a) fun (y1 : Str) =>
 some y1
noncomputable def znj (kk : Nat) (a : Int) : Option (Str) :=
 bnd (ix [[61], [60, 62], [60], [60, 61], [62], [62, 61]] (IntKind.wrap .i64 (a - 5))) fun (y1 : Str) =>
 some y1
noncomputable def zlE (kk : Nat) (a : zbw) : Option (Str) :=
 bnd (okP (zld a.table)) fun _ =>
 bnd (okP ([116].length + (zb7 a.table).length ≤ zdd)) fun _ =>
 bnd (okP ((116 :: (zb7 a.table)).length + [46].length ≤ zdd)) fun _ =>
 bnd (okP (zld a.seq)) fun _ =>
 bnd (okP ((116 :: ((zb7 a.table) ++ [46])).length + (zb7 a.seq).length ≤ zdd)) fun _ =>
 some (116 :: (((zb7 a.table) ++ [46]) ++ (zb7 a.seq)))
noncomputable def zjX (kk : Nat) (a : zbw) : Option (Str) :=
 sel (
  some []) (
  bnd (okP (zsY a.table)) fun _ =>
  bnd (okP ([116].length + (zb7 a.table).length ≤ zdd)) fun _ =>
  bnd (okP ((116 :: (zb7 a.table)).length + [46].length ≤ zdd)) fun _ =>
  bnd (okP (zsY a.seq)) fun _ =>
  bnd (okP ((116 :: ((zb7 a.table) ++ [46])).length + (zb7 a.seq).length ≤ zdd)) fun _ =>
  some (116 :: (((zb7 a.table) ++ [46]) ++ (zb7 a.seq)))) (!((zdV a)))
noncomputable def zht (kk : Nat) : Option ((Sl Str)) :=
 some (Sl.of [[67, 79, 85, 78, 84], [83, 85, 77], [77, 73, 78], [77, 65, 88]])
noncomputable def zhs (kk : Nat) : Option ((Sl Str)) :=
 some (Sl.of [[61], [60, 62], [60], [60, 61], [62], [62, 61]])
noncomputable def zky (kk : Nat) (a : Val) : Option (Str) :=
 sel (
  some []) (
  sel (
   bnd (okP ((zsY a.int && (10 : Int) == 10) = true)) fun _ =>
   some (zt1 a.int 10)) (
   sel (
    bnd (okP (zv4 a.text [39] [39, 39])) fun _ =>
    bnd (okP ([39].length + (zlX a.text [39] [39, 39]).length ≤ zdd)) fun _ =>
    bnd (okP ((39 :: (zlX a.text [39] [39, 39])).length + [39].length ≤ zdd)) fun _ =>
    some (39 :: ((zlX a.text [39] [39, 39]) ++ [39]))) (
    sel (
     some [84, 82, 85, 69]) (
     some [70, 65, 76, 83, 69]) (a.int == 1)) (a.kind == 1)) (a.kind == 0)) (!((zbS a)))
end Go.Ev
namespace Go.Ev
theorem zqC (n : Int) : IntKind.wrap .u64 n = n % 18446744073709551616 := by
 simp only [IntKind.wrap, IntKind.bits, IntKind.signed, Bool.false_and, Bool.false_eq_true, if_false]; rfl
theorem zK6 (n : Int) : IntKind.wrap .u8 n = n % 256 := by
 simp only [IntKind.wrap, IntKind.bits, IntKind.signed, Bool.false_and, Bool.false_eq_true, if_false]; rfl
theorem zBt {k u : Nat} : (zAc k u).length ≤ k := by
 induction k generalizing u with
 | zero => simp [zAc]
 | succ k ih =>
   rw [zAc]; split
   · simp
   · have := @ih (u / 10); simp; exact this
theorem zBp (a : Int) : (zyW a).length ≤ 20 := zBt
theorem zKh (k u : Nat) : zAc (k + 1) u = if u < 10 then [UInt8.ofNat (48 + u)] else zAc k (u / 10) ++ [UInt8.ofNat (48 + u % 10)] := rfl
theorem zKi {k u : Nat} (h : u < 10 ^ k) (hk : 0 < k) : zAc (k + 1) u = zAc k u := by
 rw [zBu _ _ h hk, zBu _ _ (by rw [Nat.pow_succ]; omega) (by omega)]
theorem zKc {d : Int} (h0 : 0 ≤ d) (h1 : d < 10) : b2s [(IntKind.wrap .u8 (IntKind.wrap .u64 (48 + d)))] = [UInt8.ofNat (48 + d.toNat)] := by
 rw [zqC, zK6, Int.emod_eq_of_lt (by omega) (by omega), Int.emod_eq_of_lt (by omega) (by omega)]
 simp only [b2s, List.map_cons, List.map_nil]
 rw [show (48 + d).toNat = 48 + d.toNat by omega]
theorem zKd {a : Int} (h0 : 10 ≤ a) (h1 : a ≤ 18446744073709551615) : zyW a = zyW (a / 10) ++ [UInt8.ofNat (48 + (a % 10).toNat)] := by
 unfold zyW
 rw [show (a / 10).toNat = a.toNat / 10 by omega, show (a % 10).toNat = a.toNat % 10 by omega, zKi (k := 19) (u := a.toNat / 10) (by omega) (by omega), zKh 19 a.toNat, if_neg (by omega)]
theorem zMb {a : Int} (h0 : 0 ≤ a) (h1 : a < 10) : zyW a = [UInt8.ofNat (48 + a.toNat)] := by
 unfold zyW
 rw [show (20 : Nat) = 19 + 1 from rfl, zAc, if_pos (by omega)]
theorem zyJ {kk sz : Nat} {a : Int} (h : 0 ≤ a ∧ a ≤ 18446744073709551615 ∧ (zyW a).length < sz + 1) (_hk : sz < kk) (_hb : sz + 1 < big) : znm kk sz a = some (zyW a) := by
 obtain ⟨h0, h1, h2⟩ := h
 unfold znm
 rw [zjl]
 by_cases hd : a < 10
 · rw [if_pos hd, zKc h0 hd, zMb h0 hd]
 · rw [if_neg hd]
   have e1 : IntKind.wrap .u64 (a.tdiv 10) = a / 10 := by
    rw [zqC, Int.tdiv_eq_ediv_of_nonneg h0]; omega
   have e2 : a.tmod 10 = a % 10 := Int.tmod_eq_emod_of_nonneg h0
   rw [e1, e2, zKc (by omega) (by omega)]
   have e3 := zKd (show 10 ≤ a by omega) h1
   rw [e3] at h2
   simp only [List.length_append, List.length_cons, List.length_nil] at h2
   rw [zat (show 0 ≤ a / 10 ∧ a / 10 ≤ 18446744073709551615 ∧ (zyW (a / 10)).length < sz from ⟨by omega, by omega, by omega⟩), zaf]
   rw [zat (by have := zBp (a / 10); unfold zdd; simp; omega), zaf, e3]
theorem zwN (kk : Nat) (a : Int) (h : zld a) : zlH kk a = some (zb7 a) := by
 obtain ⟨h1, h2⟩ := h
 unfold zlH zb7
 rw [zjl]
 have hb1 : big = 1152921504606846976 := rfl
 by_cases hn : a < 0
 · rw [if_pos hn, if_pos hn]
   have e : IntKind.wrap .u64 (0 - IntKind.wrap .u64 a) = ((a.natAbs : Nat) : Int) := by rw [zqC, zqC]; omega
   have hl := zBp ((a.natAbs : Nat) : Int)
   rw [e, zat ⟨by omega, by omega, by omega⟩, zaf, zat (by unfold zdd; simp; omega), zaf]
   unfold zyW; rw [Int.toNat_natCast]
 · rw [if_neg hn, if_neg hn]
   have e : IntKind.wrap .u64 a = a := by rw [zqC]; omega
   have hl := zBp a
   rw [e, zat ⟨by omega, by omega, by omega⟩, zaf]; rfl
theorem zih (a : Int) : (zb7 a).length ≤ 21 := by
 unfold zb7; split
 · have := @zBt 20 a.natAbs; simp; exact this
 · have := @zBt 20 a.toNat; omega
theorem zL5 (s t : Str) : zsZ (s ++ t) = zsZ s ++ zsZ t := by
 induction s with
 | nil => rfl
 | cons b s ih => simp only [List.cons_append, zog, ih]; split <;> rfl
theorem zw1 (s : Str) : (zsZ s).length ≤ 2 * s.length := by
 induction s with
 | nil => simp [zsZ]
 | cons b s ih => rw [zog]; split <;> simp <;> omega
theorem zyB {a : Val} {kk : Nat} (hl : a.text.length ≤ 255) : ∀ (k i : Nat), i ≤ a.text.length → a.text.length - i < k → zgq a kk k (39 :: zsZ (a.text.take i)) (i : Int) = some (.done (39 :: zsZ a.text, (a.text.length : Int))) := by
 intro k
 have hb1 : big = 1152921504606846976 := rfl
 induction k with
 | zero => intro i _ h; omega
 | succ k ih =>
   intro i h1 h2
   rw [zgq]
   by_cases e : i = a.text.length
   · subst e; rw [decide_eq_false (by omega), zbD, List.take_length]
   · have hi : i < a.text.length := by omega
     have ei := List.getElem?_eq_getElem hi
     have hlen := zw1 (a.text.take i)
     rw [List.length_take] at hlen
     rw [decide_eq_true (by omega), zaw, zaL (by omega)]
     have es : zzO a.text (some (i : Int)) (some ((i + 1 : Nat) : Int)) = some [a.text[i]] := by
      unfold zzO
      simp only [Option.getD_some, Int.toNat_natCast]
      rw [if_pos ⟨by omega, by omega, by omega, by omega⟩, show i + 1 - i = 1 by omega, zKk ei]
     rw [es, zaf, zat (by unfold zdd; simp; omega), zaf, zbO, ei, zaf]
     have et : a.text.take (i + 1) = a.text.take i ++ [a.text[i]] := by rw [List.take_add_one, ei]; rfl
     have ih := ih (i + 1) (by omega) (by omega)
     rw [et, zL5] at ih
     by_cases hq : a.text[i] = 39
     · rw [hq] at ih ⊢
       rw [show (((39 : UInt8).toNat : Int) == 39) = true from rfl, zaw, zat (by unfold zdd; simp only [List.length_append, List.length_cons, List.length_nil]; omega), zaf]
       rw [← ih]; congr 1; simp [zsZ]
     · have : ((a.text[i].toNat : Int) == 39) = false := by
        simp; intro e; exact hq (UInt8.toNat_inj.1 (show a.text[i].toNat = 39 by omega))
       rw [this, zbD, ← ih]; congr 1; simp [zsZ, hq]
theorem zyI {kk : Nat} (a : Val) (h : zld a.int) (hk : 256 < kk) : znl kk a = some (zdy a) := by
 unfold znl zdy
 rw [zdv]
 cases hv : zbS a
 · rfl
 · simp only [zaw, if_true]
   rw [zcr]
   by_cases h0 : a.kind = 0
   · rw [if_pos h0, if_pos h0, zat h]; rfl
   · rw [if_neg h0, if_neg h0, zcr]
     unfold zbS at hv
     rw [if_neg h0] at hv
     by_cases h2 : a.kind = 2
     · rw [if_pos h2, if_neg (show ¬ a.kind = 1 by omega), zcr]
       split <;> rfl
     · rw [if_neg h2]
       rw [if_neg h2] at hv
       by_cases h1 : a.kind = 1
       · rw [if_pos h1] at hv ⊢
         simp only [Bool.and_eq_true, decide_eq_true_eq] at hv
         have hl : a.text.length ≤ 255 := by omega
         have := zyB (kk := kk) hl kk 0 (by omega) (by omega)
         rw [show (39 :: zsZ (a.text.take 0)) = [39] from rfl, show ((0 : Nat) : Int) = 0 from rfl] at this
         have hlen := zw1 a.text
         rw [this, zbE]
         simp only
         rw [zat (by unfold zdd; simp; omega)]; rfl
       · rw [if_neg h1] at hv; cases hv
theorem zvQ (kk : Nat) (a : Int) (h : 0 ≤ a ∧ a ≤ 3) : zkC kk a = some (nth zc9 a) := by
 obtain ⟨n, rfl⟩ : ∃ n : Nat, a = n := ⟨a.toNat, by omega⟩
 unfold zkC
 rw [zbO]
 have : n = 0 ∨ n = 1 ∨ n = 2 ∨ n = 3 := by omega
 rcases this with rfl | rfl | rfl | rfl <;> rfl
theorem zyG (kk : Nat) (a : Int) (h : 5 ≤ a ∧ a ≤ 10) : znj kk a = some (opS a) := by
 obtain ⟨n, rfl⟩ : ∃ n : Nat, a = n + 5 := ⟨(a - 5).toNat, by omega⟩
 unfold znj opS
 rw [show (n : Int) + 5 - 5 = n by omega, zc3 (by omega) (by omega), zbO]
 have : n = 0 ∨ n = 1 ∨ n = 2 ∨ n = 3 ∨ n = 4 ∨ n = 5 := by omega
 rcases this with rfl | rfl | rfl | rfl | rfl | rfl <;> rfl
theorem zwK (kk : Nat) (a : zbw) (h : zu0 a) : zlE kk a = some (zrN a) := by
 have h1 := zih a.table
 have h2 := zih a.seq
 unfold zlE zrN
 rw [zat h.1, zaf, zat (by unfold zdd; simp; omega), zaf, zat (by unfold zdd; simp; omega), zaf, zat h.2, zaf, zat (by unfold zdd; simp; omega), zaf]
 simp
theorem zuL (kk : Nat) (a : zbw) (h : zu0 a) : zjX kk a = some (zjc a) := by
 have h1 := zih a.table
 have h2 := zih a.seq
 unfold zjX zjc
 rw [zdv]
 cases zdV a
 · rfl
 · rw [zaw, zat (zt3 h.1), zaf, zat (by unfold zdd; simp; omega), zaf, zat (by unfold zdd; simp; omega), zaf, zat (zt3 h.2), zaf, zat (by unfold zdd; simp; omega), zaf]
   simp
theorem znS (kk : Nat) : zht kk = some zkw := rfl
theorem znR (kk : Nat) : zhs kk = some zgC := rfl
theorem zvL (kk : Nat) (a : Val) (h : zld a.int) : zky kk a = some (zdy a) := by
 unfold zky zdy
 rw [zdv]
 cases hv : zbS a
 · rfl
 · simp only [zaw, if_true]
   rw [zcr]
   by_cases h0 : a.kind = 0
   · rw [if_pos h0, if_pos h0, zat (by rw [zt3 h]; rfl)]; rfl
   · rw [if_neg h0, if_neg h0, zcr]
     unfold zbS at hv
     rw [if_neg h0] at hv
     by_cases h1 : a.kind = 1
     · rw [if_pos h1] at hv ⊢
       simp only [Bool.and_eq_true, decide_eq_true_eq] at hv
       have hl : a.text.length ≤ 255 := by omega
       have hc := Lib.count_le a.text [39]
       have he := zw1 a.text
       rw [if_pos h1, zat (show zv4 a.text [39] [39, 39] from ⟨by unfold lim; omega, by decide, by unfold zdd; simp; omega⟩), zaf, zG4, zat (by unfold zdd; simp; omega), zaf, zat (by unfold zdd; simp; omega), zaf]; rfl
     · rw [if_neg h1, if_neg h1, zcr]
       split <;> rfl
end Go.Ev
set_option linter.unusedVariables false
namespace Go.Ev
def ztr (a : Sl zai) : Str := ze0 (a.l.map zbI) [42]
noncomputable def zne (c24 : Sl zal) (c25 : Str) (c26 : Int) (c27 : Str) (c28 : Int) (c29 : Bool) (sz : Nat) (kk : Nat) : Option (Str) :=
 sel (
  bnd (okP (c27.length + [42].length ≤ zdd)) fun _ =>
  some (c27 ++ [42])) (
  some c27) (c29)
noncomputable def zdr (c18 : Sl zal) (c19 : Str) (c20 : Int) (sz : Nat) (kk : Nat) : Nat → Str → Int → Option (Out (Str) (Str × Int))
 | 0, _, _ => none
 | k + 1, s21, s22 =>
   bnd (ix c18.l c20) fun (y23 : zal) =>
   sel (
    bnd (zne c18 c19 c20 s21 s22 (!(s21 == [])) sz kk) fun (q31 : Str) =>
    bnd (ix y23.factors.l s22) fun (y32 : zai) =>
    bnd (okP ((zgw y32.atom = true ∧ zhG y32.atom ∧ zbx y32.atom < lim ∧ 4 * zbx y32.atom < sz))) fun _ =>
    bnd (okP (q31.length + (zfs y32.atom).length ≤ zdd)) fun _ =>
    sel (
     bnd (okP ((q31 ++ (zfs y32.atom)).length + [94].length ≤ zdd)) fun _ =>
     bnd (okP (zld y32.exp)) fun _ =>
     bnd (okP (((q31 ++ (zfs y32.atom)) ++ [94]).length + (zb7 y32.exp).length ≤ zdd)) fun _ =>
     zdr c18 c19 c20 sz kk k (((q31 ++ (zfs y32.atom)) ++ [94]) ++ (zb7 y32.exp)) (IntKind.wrap .i64 (s22 + 1))) (
     zdr c18 c19 c20 sz kk k (q31 ++ (zfs y32.atom)) (IntKind.wrap .i64 (s22 + 1))) (y32.exp != 1)) (
    some (.done (s21, s22))) (decide (s22 < (y23.factors.l.length : Int)))
noncomputable def zjf (c11 : Sl zal) (c12 : Str) (c13 : Int) (c14 : Bool) (sz : Nat) (kk : Nat) : Option (Str) :=
 sel (
  bnd (ix c11.l c13) fun (y15 : zal) =>
  bnd (okP (zld y15.coeff)) fun _ =>
  some (zb7 y15.coeff)) (
  some []) (c14)
noncomputable def znf (c4 : Sl zal) (c5 : Str) (c6 : Int) (c7 : Bool) (sz : Nat) (kk : Nat) : Option (Str) :=
 sel (
  bnd (okP (c5.length + [32, 43, 32].length ≤ zdd)) fun _ =>
  some (c5 ++ [32, 43, 32])) (
  some c5) (c7)
noncomputable def zfx (c1 : Sl zal) (sz : Nat) (kk : Nat) : Nat → Str → Int → Option (Out (Str) (Str × Int))
 | 0, _, _ => none
 | k + 1, s2, s3 =>
   sel (
    bnd (znf c1 s2 s3 (decide (0 < s3)) sz kk) fun (q9 : Str) =>
    bnd (ix c1.l s3) fun (y10 : zal) =>
    bnd (zjf c1 q9 s3 ((y10.coeff != 1) || ((y10.factors.l.length : Int) == 0)) sz kk) fun (q17 : Str) =>
    zhy (zdr c1 q9 s3 sz kk kk q17 0) (fun r => some (.ret r)) fun (q38 : Str × Int) =>
     bnd (okP (q9.length + q38.1.length ≤ zdd)) fun _ =>
     zfx c1 sz kk k (q9 ++ q38.1) (IntKind.wrap .i64 (s3 + 1))) (
    some (.done (s2, s3))) (decide (s3 < (c1.l.length : Int)))
noncomputable def zr0 (kk : Nat) (sz : Nat) (a : (Sl zal)) : Option (Str) :=
 sel (
  some [48]) (
  zhy (zfx a sz kk kk [] 0) (fun r => some r) fun (q40 : Str × Int) =>
   some q40.1) ((a.l.length : Int) == 0)
noncomputable def ziX (c24 : Str) (c25 : Int) (c26 : Bool) (c27 : zan) (sz : Nat) (kk : Nat) : Option (Str) :=
 sel (
  bnd (okP (c24.length + [59, 32].length ≤ zdd)) fun _ =>
  some (c24 ++ [59, 32])) (
  some c24) (c26)
noncomputable def zcP (c23 : zan) (sz : Nat) (kk : Nat) : Nat → Str → Int → Option (Out (Str) (Str × Int))
 | 0, _, _ => none
 | k + 1, s21, s22 =>
   sel (
    bnd (ziX s21 s22 (decide (0 < s22)) c23 sz kk) fun (q29 : Str) =>
    bnd (ix c23.items.l s22) fun (y30 : zad) =>
    bnd (okP (zld y30.value.int)) fun _ =>
    bnd (okP (q29.length + (zdy y30.value).length ≤ zdd)) fun _ =>
    bnd (okP ((q29 ++ (zdy y30.value)).length + [58, 32].length ≤ zdd)) fun _ =>
    bnd (okP ((zdl y30.ann.l = true ∧ zbv y30.ann.l ∧ zak y30.ann.l < lim ∧ 4 * zak y30.ann.l + 1 < sz))) fun _ =>
    bnd (okP (((q29 ++ (zdy y30.value)) ++ [58, 32]).length + (zcp y30.ann).length ≤ zdd)) fun _ =>
    zcP c23 sz kk k (((q29 ++ (zdy y30.value)) ++ [58, 32]) ++ (zcp y30.ann)) (IntKind.wrap .i64 (s22 + 1))) (
    some (.done (s21, s22))) (decide (s22 < (c23.items.l.length : Int)))
noncomputable def zkB (kk : Nat) (sz : Nat) (a : zan) : Option (Str) :=
 sel (
  bnd (okP (zu0 a.row)) fun _ =>
  some (zrN a.row)) (
  sel (
   bnd (a.args.l[0]?) fun (y2 : (Sl zal)) =>
   bnd (okP ((zdl y2.l = true ∧ zbv y2.l ∧ zak y2.l < lim ∧ 4 * zak y2.l + 1 < sz))) fun _ =>
   bnd (okP ([109, 111, 110, 117, 115, 91].length + (zcp y2).length ≤ zdd)) fun _ =>
   bnd (okP ((109 :: 111 :: 110 :: 117 :: 115 :: 91 :: (zcp y2)).length + [44, 32].length ≤ zdd)) fun _ =>
   bnd (a.args.l[1]?) fun (y6 : (Sl zal)) =>
   bnd (okP ((zdl y6.l = true ∧ zbv y6.l ∧ zak y6.l < lim ∧ 4 * zak y6.l + 1 < sz))) fun _ =>
   bnd (okP ((109 :: 111 :: 110 :: 117 :: 115 :: 91 :: ((zcp y2) ++ [44, 32])).length + (zcp y6).length ≤ zdd)) fun _ =>
   bnd (okP ((109 :: 111 :: 110 :: 117 :: 115 :: 91 :: (((zcp y2) ++ [44, 32]) ++ (zcp y6))).length + [93].length ≤ zdd)) fun _ =>
   some (109 :: 111 :: 110 :: 117 :: 115 :: 91 :: ((((zcp y2) ++ [44, 32]) ++ (zcp y6)) ++ [93]))) (
   sel (
    bnd (a.args.l[0]?) fun (y10 : (Sl zal)) =>
    bnd (okP ((zdl y10.l = true ∧ zbv y10.l ∧ zak y10.l < lim ∧ 4 * zak y10.l + 1 < sz))) fun _ =>
    bnd (okP ([100, 101, 108, 116, 97, 91].length + (zcp y10).length ≤ zdd)) fun _ =>
    bnd (okP ((100 :: 101 :: 108 :: 116 :: 97 :: 91 :: (zcp y10)).length + [93].length ≤ zdd)) fun _ =>
    some (100 :: 101 :: 108 :: 116 :: 97 :: 91 :: ((zcp y10) ++ [93]))) (
    sel (
     bnd (a.args.l[0]?) fun (y14 : (Sl zal)) =>
     bnd (okP ((zdl y14.l = true ∧ zbv y14.l ∧ zak y14.l < lim ∧ 4 * zak y14.l + 1 < sz))) fun _ =>
     bnd (okP ([97, 98, 115, 101, 110, 116, 91].length + (zcp y14).length ≤ zdd)) fun _ =>
     bnd (okP ((97 :: 98 :: 115 :: 101 :: 110 :: 116 :: 91 :: (zcp y14)).length + [93].length ≤ zdd)) fun _ =>
     some (97 :: 98 :: 115 :: 101 :: 110 :: 116 :: 91 :: ((zcp y14) ++ [93]))) (
     bnd (okP (0 ≤ a.func ∧ a.func ≤ 3)) fun _ =>
     bnd (okP ([116, 101, 115, 116, 91].length + (nth zc9 a.func).length ≤ zdd)) fun _ =>
     bnd (okP ((116 :: 101 :: 115 :: 116 :: 91 :: (nth zc9 a.func)).length + [123].length ≤ zdd)) fun _ =>
     zhy (zcP a sz kk kk (116 :: 101 :: 115 :: 116 :: 91 :: ((nth zc9 a.func) ++ [123])) 0) (fun r => some r) fun (q36 : Str × Int) =>
      bnd (okP (q36.1.length + [125, 32].length ≤ zdd)) fun _ =>
      bnd (okP (5 ≤ a.op ∧ a.op ≤ 10)) fun _ =>
      bnd (okP ((q36.1 ++ [125, 32]).length + (opS a.op).length ≤ zdd)) fun _ =>
      bnd (okP (((q36.1 ++ [125, 32]) ++ (opS a.op)).length + [32].length ≤ zdd)) fun _ =>
      bnd (okP (zld a.bound.int)) fun _ =>
      bnd (okP ((((q36.1 ++ [125, 32]) ++ (opS a.op)) ++ [32]).length + (zdy a.bound).length ≤ zdd)) fun _ =>
      bnd (okP (((((q36.1 ++ [125, 32]) ++ (opS a.op)) ++ [32]) ++ (zdy a.bound)).length + [93].length ≤ zdd)) fun _ =>
      some (((((q36.1 ++ [125, 32]) ++ (opS a.op)) ++ [32]) ++ (zdy a.bound)) ++ [93])) (a.kind == 3)) (a.kind == 2)) (a.kind == 1)) (a.kind == 0)
noncomputable def zb4 (c2 : Sl zal) (c3 : Int) (sz : Nat) (kk : Nat) : Nat → List Str → Int → Option (Out (Str) (List Str × Int))
 | 0, _, _ => none
 | k + 1, s1, s4 =>
   sel (
    bnd (ix c2.l s4) fun (y5 : zal) =>
    sel (
     bnd (okP ((zsY y5.coeff && (10 : Int) == 10) = true)) fun _ =>
     bnd (okP ((s1.length + 1) * 16 ≤ zdd)) fun _ =>
     zb4 c2 c3 sz kk k (s1 ++ [(zt1 y5.coeff 10)]) (IntKind.wrap .i64 (s4 + 1))) (
     sel (
      bnd (okP (((∀ f ∈ y5.factors.l, zgj f = true ∧ zhv f) ∧ zaB y5.factors.l < lim ∧ 4 * zaB y5.factors.l + 2 < sz))) fun _ =>
      bnd (okP ((s1.length + 1) * 16 ≤ zdd)) fun _ =>
      zb4 c2 c3 sz kk k (s1 ++ [(ztr y5.factors)]) (IntKind.wrap .i64 (s4 + 1))) (
      bnd (okP ((zsY y5.coeff && (10 : Int) == 10) = true)) fun _ =>
      bnd (okP ((zt1 y5.coeff 10).length + [42].length ≤ zdd)) fun _ =>
      bnd (okP (((∀ f ∈ y5.factors.l, zgj f = true ∧ zhv f) ∧ zaB y5.factors.l < lim ∧ 4 * zaB y5.factors.l + 2 < sz))) fun _ =>
      bnd (okP (((zt1 y5.coeff 10) ++ [42]).length + (ztr y5.factors).length ≤ zdd)) fun _ =>
      bnd (okP ((s1.length + 1) * 16 ≤ zdd)) fun _ =>
      zb4 c2 c3 sz kk k (s1 ++ [(((zt1 y5.coeff 10) ++ [42]) ++ (ztr y5.factors))]) (IntKind.wrap .i64 (s4 + 1))) (y5.coeff == 1)) ((y5.factors.l.length : Int) == 0)) (
    some (.done (s1, s4))) (decide (s4 < c3))
noncomputable def ziu (kk : Nat) (sz : Nat) (a : (Sl zal)) : Option (Str) :=
 sel (
  some [48]) (
  zhy (zb4 a (a.l.length : Int) sz kk kk [] 0) (fun r => some r) fun (q15 : List Str × Int) =>
   bnd (okP (ztZ (Sl.out q15.1).l [32, 43, 32])) fun _ =>
   some (zm4 (Sl.out q15.1) [32, 43, 32])) ((a.l.length : Int) == 0)
noncomputable def zbk (c2 : Sl zai) (c3 : Int) (sz : Nat) (kk : Nat) : Nat → List Str → Int → Option (Out (Str) (List Str × Int))
 | 0, _, _ => none
 | k + 1, s1, s4 =>
   sel (
    bnd (ix c2.l s4) fun (y5 : zai) =>
    bnd (okP ((zgw y5.atom = true ∧ zhG y5.atom ∧ zbx y5.atom < lim ∧ 4 * zbx y5.atom < sz))) fun _ =>
    sel (
     bnd (okP (zsY y5.exp)) fun _ =>
     bnd (okP ([94].length + (zb7 y5.exp).length ≤ zdd)) fun _ =>
     bnd (okP ((zfs y5.atom).length + (94 :: (zb7 y5.exp)).length ≤ zdd)) fun _ =>
     bnd (okP ((s1.length + 1) * 16 ≤ zdd)) fun _ =>
     zbk c2 c3 sz kk k (s1 ++ [((zfs y5.atom) ++ (94 :: (zb7 y5.exp)))]) (IntKind.wrap .i64 (s4 + 1))) (
     bnd (okP ((s1.length + 1) * 16 ≤ zdd)) fun _ =>
     zbk c2 c3 sz kk k (s1 ++ [(zfs y5.atom)]) (IntKind.wrap .i64 (s4 + 1))) (y5.exp != 1)) (
    some (.done (s1, s4))) (decide (s4 < c3))
noncomputable def zdU (kk : Nat) (sz : Nat) (a : (Sl zai)) : Option (Str) :=
 zhy (zbk a (a.l.length : Int) sz kk kk [] 0) (fun r => some r) fun (q12 : List Str × Int) =>
  bnd (okP (ztZ (Sl.out q12.1).l [42])) fun _ =>
  some (zm4 (Sl.out q12.1) [42])
noncomputable def zbQ (c19 : Sl zad) (c20 : Int) (c22 : zan) (sz : Nat) (kk : Nat) : Nat → List Str → Int → Option (Out (Str) (List Str × Int))
 | 0, _, _ => none
 | k + 1, s18, s21 =>
   sel (
    bnd (ix c19.l s21) fun (y23 : zad) =>
    bnd (okP (zld y23.value.int)) fun _ =>
    bnd (okP ((zdy y23.value).length + [58, 32].length ≤ zdd)) fun _ =>
    bnd (okP ((zdl y23.ann.l = true ∧ zbv y23.ann.l ∧ zak y23.ann.l < lim ∧ 4 * zak y23.ann.l + 1 < sz))) fun _ =>
    bnd (okP (((zdy y23.value) ++ [58, 32]).length + (zcp y23.ann).length ≤ zdd)) fun _ =>
    bnd (okP ((s18.length + 1) * 16 ≤ zdd)) fun _ =>
    zbQ c19 c20 c22 sz kk k (s18 ++ [(((zdy y23.value) ++ [58, 32]) ++ (zcp y23.ann))]) (IntKind.wrap .i64 (s21 + 1))) (
    some (.done (s18, s21))) (decide (s21 < c20))
noncomputable def zfn (kk : Nat) (sz : Nat) (a : zan) : Option (Str) :=
 sel (
  bnd (okP (zu0 a.row)) fun _ =>
  some (zjc a.row)) (
  sel (
   bnd (a.args.l[0]?) fun (y2 : (Sl zal)) =>
   bnd (okP ((zdl y2.l = true ∧ zbv y2.l ∧ zak y2.l < lim ∧ 4 * zak y2.l + 1 < sz))) fun _ =>
   bnd (okP ([109, 111, 110, 117, 115, 91].length + (zcp y2).length ≤ zdd)) fun _ =>
   bnd (okP ((109 :: 111 :: 110 :: 117 :: 115 :: 91 :: (zcp y2)).length + [44, 32].length ≤ zdd)) fun _ =>
   bnd (a.args.l[1]?) fun (y6 : (Sl zal)) =>
   bnd (okP ((zdl y6.l = true ∧ zbv y6.l ∧ zak y6.l < lim ∧ 4 * zak y6.l + 1 < sz))) fun _ =>
   bnd (okP ((109 :: 111 :: 110 :: 117 :: 115 :: 91 :: ((zcp y2) ++ [44, 32])).length + (zcp y6).length ≤ zdd)) fun _ =>
   bnd (okP ((109 :: 111 :: 110 :: 117 :: 115 :: 91 :: (((zcp y2) ++ [44, 32]) ++ (zcp y6))).length + [93].length ≤ zdd)) fun _ =>
   some (109 :: 111 :: 110 :: 117 :: 115 :: 91 :: ((((zcp y2) ++ [44, 32]) ++ (zcp y6)) ++ [93]))) (
   sel (
    bnd (a.args.l[0]?) fun (y10 : (Sl zal)) =>
    bnd (okP ((zdl y10.l = true ∧ zbv y10.l ∧ zak y10.l < lim ∧ 4 * zak y10.l + 1 < sz))) fun _ =>
    bnd (okP ([100, 101, 108, 116, 97, 91].length + (zcp y10).length ≤ zdd)) fun _ =>
    bnd (okP ((100 :: 101 :: 108 :: 116 :: 97 :: 91 :: (zcp y10)).length + [93].length ≤ zdd)) fun _ =>
    some (100 :: 101 :: 108 :: 116 :: 97 :: 91 :: ((zcp y10) ++ [93]))) (
    sel (
     bnd (a.args.l[0]?) fun (y14 : (Sl zal)) =>
     bnd (okP ((zdl y14.l = true ∧ zbv y14.l ∧ zak y14.l < lim ∧ 4 * zak y14.l + 1 < sz))) fun _ =>
     bnd (okP ([97, 98, 115, 101, 110, 116, 91].length + (zcp y14).length ≤ zdd)) fun _ =>
     bnd (okP ((97 :: 98 :: 115 :: 101 :: 110 :: 116 :: 91 :: (zcp y14)).length + [93].length ≤ zdd)) fun _ =>
     some (97 :: 98 :: 115 :: 101 :: 110 :: 116 :: 91 :: ((zcp y14) ++ [93]))) (
     zhy (zbQ a.items (a.items.l.length : Int) a sz kk kk [] 0) (fun r => some r) fun (q29 : List Str × Int) =>
      bnd (ix (zkw).l a.func) fun (y30 : Str) =>
      bnd (okP ([116, 101, 115, 116, 91].length + y30.length ≤ zdd)) fun _ =>
      bnd (okP ((116 :: 101 :: 115 :: 116 :: 91 :: y30).length + [123].length ≤ zdd)) fun _ =>
      bnd (okP (ztZ (Sl.out q29.1).l [59, 32])) fun _ =>
      bnd (okP ((116 :: 101 :: 115 :: 116 :: 91 :: (y30 ++ [123])).length + (zm4 (Sl.out q29.1) [59, 32]).length ≤ zdd)) fun _ =>
      bnd (okP ((116 :: 101 :: 115 :: 116 :: 91 :: ((y30 ++ [123]) ++ (zm4 (Sl.out q29.1) [59, 32]))).length + [125, 32].length ≤ zdd)) fun _ =>
      bnd (ix (zgC).l (IntKind.wrap .i64 (a.op - 5))) fun (y36 : Str) =>
      bnd (okP ((116 :: 101 :: 115 :: 116 :: 91 :: (((y30 ++ [123]) ++ (zm4 (Sl.out q29.1) [59, 32])) ++ [125, 32])).length + y36.length ≤ zdd)) fun _ =>
      bnd (okP ((116 :: 101 :: 115 :: 116 :: 91 :: ((((y30 ++ [123]) ++ (zm4 (Sl.out q29.1) [59, 32])) ++ [125, 32]) ++ y36)).length + [32].length ≤ zdd)) fun _ =>
      bnd (okP (zld a.bound.int)) fun _ =>
      bnd (okP ((116 :: 101 :: 115 :: 116 :: 91 :: (((((y30 ++ [123]) ++ (zm4 (Sl.out q29.1) [59, 32])) ++ [125, 32]) ++ y36) ++ [32])).length + (zdy a.bound).length ≤ zdd)) fun _ =>
      bnd (okP ((116 :: 101 :: 115 :: 116 :: 91 :: ((((((y30 ++ [123]) ++ (zm4 (Sl.out q29.1) [59, 32])) ++ [125, 32]) ++ y36) ++ [32]) ++ (zdy a.bound))).length + [93].length ≤ zdd)) fun _ =>
      some (116 :: 101 :: 115 :: 116 :: 91 :: (((((((y30 ++ [123]) ++ (zm4 (Sl.out q29.1) [59, 32])) ++ [125, 32]) ++ y36) ++ [32]) ++ (zdy a.bound)) ++ [93]))) (a.kind == 3)) (a.kind == 2)) (a.kind == 1)) (a.kind == 0)
end Go.Ev
namespace Go.Ev
def jl (c : Nat) : List Str → Nat
 | [] => 0
 | x :: l => x.length + c + jl c l
theorem zq3 {c d : Nat} (h : c ≤ d) (l : List Str) : jl c l ≤ jl d l := by
 induction l with
 | nil => exact Nat.le_refl _
 | cons x l ih => simp only [jl]; omega
theorem zku (l : List Str) (sep : Str) : (ze0 l sep).length ≤ jl sep.length l := by
 induction l with
 | nil => simp [zq2, jl]
 | cons x l ih => cases l with
   | nil => rw [zhQ]; simp only [jl]; omega
   | cons y l => rw [ziJ]; simp only [List.length_append, jl] at ih ⊢; omega
theorem zlQ (v : Val) : (zdy v).length ≤ 2 * v.text.length + 22 := by
 have h1 := zih v.int
 have h2 := zw1 v.text
 unfold zdy
 split
 · split
   · omega
   · split
     · unfold zsC; simp; omega
     · split <;> simp [zGZ, zzR]
 · simp
theorem zHI (r : zbw) : (zjc r).length ≤ 44 := by
 have h1 := zih r.table
 have h2 := zih r.seq
 unfold zjc; split <;> simp; omega
theorem zJx {l : List Str} {n : Int} (h : ∀ x ∈ l, x.length ≤ 5) : (nth l n).length ≤ 5 := by
 unfold nth
 cases e : l[n.toNat]? with
 | none => simp
 | some x => exact h x (List.mem_of_getElem? e)
theorem zJW (n : Int) : (nth zc9 n).length ≤ 5 := zJx (by decide)
theorem zJs (n : Int) : (nth zc1 n).length ≤ 5 := zJx (by decide)
theorem zEo {l : List Str} {b : Bool} {n : Nat} (h : jl 3 l ≤ n) : (txA l b).length ≤ n + 1 := by
 unfold txA
 split
 · have := zku l zk0
   rw [show zk0.length = 3 from rfl] at this; omega
 · simp
theorem zML {c : Nat} {l : List Str} (i : Nat) : ((l[i]?).getD []).length ≤ jl c l := by
 induction l generalizing i with
 | nil => simp [jl]
 | cons x l ih => cases i with
   | zero => simp [jl]; omega
   | succ i => have := ih i; simp only [List.getElem?_cons_succ, jl]; omega
theorem zIG (c : Int) (f : Fl) (fs : List zai) : zf7 (.mk c ⟨f, fs⟩) = if fs.isEmpty then zb7 c else if c = 1 then ze0 (fs.map zbI) [42] else zb7 c ++ 42 :: ze0 (fs.map zbI) [42] := by
 simp only [zf7, zf9]
 first | done | rfl
theorem zEm (a : zan) (e : Int) : zbI (.mk a e) = if e = 1 then zfs a else zfs a ++ 94 :: zb7 e := by
 simp only [zbI]
 first | done | rfl
mutual
theorem zJy : ∀ x : zal, (zf7 x).length ≤ 64 * zcF x
 | .mk c ⟨f, fs⟩ => by
   have h := zod fs
   have hj := zku (fs.map zbI) [42]
   have hm := zq3 (show 1 ≤ 3 by omega) (fs.map zbI)
   have hi := zih c
   rw [zf9] at h
   rw [show ([42] : Str).length = 1 from rfl] at hj
   rw [zIG, zdm]
   simp only [zal.factors]
   split
   · omega
   · split
     · omega
     · simp only [List.length_append, List.length_cons]; omega
theorem zod : ∀ l : List zai, jl 3 (zhI l) ≤ 64 * zaB l
 | [] => by simp [zhI, jl]
 | x :: xs => by
   have h1 := zJz x
   have h2 := zod xs
   simp only [zhI, jl, zaB]; omega
theorem zJz : ∀ x : zai, (zbI x).length ≤ 64 * zc4 x
 | .mk a e => by
   have h1 := zxQ a
   have hi := zih e
   rw [zEm, zcA]
   simp only [zai.atom]
   split
   · omega
   · simp only [List.length_append, List.length_cons]; omega
theorem zxQ : ∀ x : zan, (zfs x).length ≤ 64 * zbx x
 | .mk k r ⟨f1, as⟩ f ⟨f2, is⟩ o b => by
   have h1 := zJA as
   have h2 := ztV is
   have h3 := zHI r
   have h4 := zlQ b
   have h5 := zJW f
   have h6 := zJs (o - 5)
   rw [zib] at h1
   rw [zhH] at h2
   have g0 := zML (c := 0) (l := as.map zcp) 0
   have g1 := zML (c := 0) (l := as.map zcp) 1
   have gs : (((as.map zcp)[0]?).getD []).length + (((as.map zcp)[1]?).getD []).length ≤ jl 0 (as.map zcp) := by
    match as.map zcp with
    | [] => simp [jl]
    | [x] => simp [jl]
    | x :: y :: l => simp only [List.getElem?_cons_zero, List.getElem?_cons_succ, Option.getD_some, jl]; omega
   have hj := zku (is.map zf8) zkZ
   have hm := zq3 (show 2 ≤ 3 by omega) (is.map zf8)
   rw [show zkZ.length = 2 from rfl] at hj
   rw [zxi, zcq]
   simp only [zan.args, zan.items, zan.bound]
   split
   · omega
   · split
     · simp only [List.length_append, zeY, zp2, List.length_cons, List.length_nil]; omega
     · split
       · simp only [List.length_append, zeZ, List.length_cons, List.length_nil]; omega
       · split
         · simp only [List.length_append, zcZ, List.length_cons, List.length_nil]; omega
         · simp only [List.length_append, ziz, zkE, List.length_cons, List.length_nil]; omega
theorem zJA : ∀ l : List (Sl zal), jl 0 (zp1 l) ≤ 64 * zcv l
 | [] => by simp [zp1, jl]
 | ⟨f, x⟩ :: xs => by
   have h1 := zrR x
   have h2 := zJA xs
   have h3 := zEo (b := !x.isEmpty) h1
   simp only [zp1, jl, zcv]; omega
theorem zrR : ∀ l : List zal, jl 3 (zkY l) ≤ 64 * zak l
 | [] => by simp [zkY, jl]
 | x :: xs => by
   have h1 := zJy x
   have h2 := zrR xs
   simp only [zkY, jl, zak]; omega
theorem ztV : ∀ l : List zad, jl 3 (zns l) ≤ 64 * za9 l
 | [] => by simp [zns, jl]
 | x :: xs => by
   have h1 := zNG x
   have h2 := ztV xs
   simp only [zns, jl, za9]; omega
theorem zNG : ∀ x : zad, (zf8 x).length ≤ 64 * zec x
 | .mk v ⟨f, l⟩ => by
   have h1 := zrR l
   have h2 := zlQ v
   have h3 := zEo (b := !l.isEmpty) h1
   simp only [zf8, List.length_append, zp3, List.length_cons, List.length_nil, zec]; omega
end
theorem zq0 (a : Sl zal) : (zcp a).length ≤ 64 * zak a.l + 1 := zEo (zrR a.l)
theorem zre {α R : Type} {L : Nat → List Str → Int → Option (Out R (List Str × Int))} {xs : List α} {k : Nat} (g : α → Str)
 (hend : ∀ k s, L (k + 1) s xs.length = some (.done (s, (xs.length : Int))))
 (hstep : ∀ k (i : Nat) x (l : List Str), xs[i]? = some x → l.length = i → L (k + 1) l (i : Int) = L k (l ++ [g x]) ((i + 1 : Nat) : Int)) (hk : xs.length < k) :
 L k [] 0 = some (.done (xs.map g, (xs.length : Int))) := by
 have := zoe (L := L) (n := xs.length) (k := k) (fun i => (xs.take i).map g) [] hend (fun k i hi => by
  have ex := List.getElem?_eq_getElem hi
  rw [hstep k i _ _ ex (by rw [List.length_map, List.length_take]; omega), List.take_add_one, ex, Option.toList_some, List.map_append]; rfl) rfl hk
 rw [List.take_length] at this; exact this
theorem zz5 (l : List Str) (x sep : Str) : ze0 (l ++ [x]) sep = if l.isEmpty then x else ze0 l sep ++ (sep ++ x) := by
 induction l with
 | nil => simp [zhQ]
 | cons y l ih => cases l with
   | nil => simp [ziJ, zhQ]
   | cons z l =>
     simp only [List.cons_append, ziJ, List.isEmpty_cons, Bool.false_eq_true, if_false] at ih ⊢
     rw [ih]; simp
theorem zEX {l : List Str} (sep : Str) (h : ∀ x ∈ l, x ≠ []) : (ze0 l sep == []) = l.isEmpty := by
 cases l with
 | nil => rfl
 | cons x l =>
   have hx := h x List.mem_cons_self
   have := ztY sep h
   cases e : ze0 (x :: l) sep with
   | nil => rw [e] at this; simp at this
   | cons => rfl
theorem zJH (c : Nat) (a b : List Str) : jl c (a ++ b) = jl c a + jl c b := by
 induction a with
 | nil => simp [jl]
 | cons x a ih => simp only [List.cons_append, jl, ih]; omega
theorem zNH {c : Nat} (l : List Str) (i : Nat) : jl c (l.take i) ≤ jl c l := by
 have := zJH c (l.take i) (l.drop i)
 rw [List.take_append_drop] at this; omega
theorem zA9 {c : Nat} {l : List Str} {i : Nat} {x : Str} (h : l[i]? = some x) : jl c (l.take i) + x.length + c ≤ jl c l := by
 have h1 := zNH (c := c) l (i + 1)
 rw [List.take_add_one, h, zJH] at h1
 simp only [Option.toList_some, jl] at h1; omega
theorem zCp {α R : Type} {L : Nat → Str → Int → Option (Out R (Str × Int))} {xs : List α} {k : Nat} (g : α → Str) (sep base : Str)
 (hend : ∀ k s, L (k + 1) s xs.length = some (.done (s, (xs.length : Int))))
 (hstep : ∀ k (i : Nat) x (s : Str), xs[i]? = some x → s.length ≤ base.length + jl sep.length ((xs.take i).map g) → L (k + 1) s (i : Int) = L k (if i = 0 then s ++ g x else s ++ (sep ++ g x)) ((i + 1 : Nat) : Int)) (hk : xs.length < k) :
 L k base 0 = some (.done (base ++ ze0 (xs.map g) sep, (xs.length : Int))) := by
 have := zoe (L := L) (n := xs.length) (k := k) (fun i => base ++ ze0 ((xs.take i).map g) sep) base hend (fun k i hi => by
  have ex := List.getElem?_eq_getElem hi
  have hl := zku ((xs.take i).map g) sep
  rw [hstep k i _ _ ex (by rw [List.length_append]; omega)]
  congr 1
  rw [List.take_add_one, ex, Option.toList_some, List.map_append, List.map_cons, List.map_nil, zz5]
  by_cases h0 : i = 0
  · subst h0; simp [zq2]
  · rw [if_neg h0, if_neg (by rw [List.isEmpty_iff]; intro e; have := congrArg List.length e; rw [List.length_map, List.length_take, List.length_nil] at this; omega), List.append_assoc]) (by simp [zq2]) hk
 rw [List.take_length] at this; exact this
theorem zGS {α R : Type} {L : Nat → Str → Int → Option (Out R (Str × Int))} {xs : List α} {k : Nat} (g : α → Str) (sep base : Str) (hg : ∀ x ∈ xs, g x ≠ [])
 (hend : ∀ k s, L (k + 1) s xs.length = some (.done (s, (xs.length : Int))))
 (hstep : ∀ k (i : Nat) x (s : Str), xs[i]? = some x → s.length ≤ base.length + sep.length + jl sep.length ((xs.take i).map g) → L (k + 1) s (i : Int) = L k (if s == [] then s ++ g x else s ++ (sep ++ g x)) ((i + 1 : Nat) : Int)) (hk : xs.length < k) :
 L k base 0 = some (.done (ze0 ((if base == [] then [] else [base]) ++ xs.map g) sep, (xs.length : Int))) := by
 generalize hp : (if base == [] then ([] : List Str) else [base]) = pre
 have hpl : jl sep.length pre ≤ base.length + sep.length := by
  rw [← hp]; split
  · simp [jl]
  · simp only [jl]; omega
 have hpre : ∀ x ∈ pre, x ≠ [] := by
  rw [← hp]; split
  · simp
  · rename_i h; intro x hx; rw [List.mem_singleton] at hx; subst hx; simpa using h
 have h0 : ze0 (pre ++ (xs.take 0).map g) sep = base := by
  rw [← hp]; split
  · rename_i h; simp at h; simp [h, zq2]
  · simp [zhQ]
 have := zoe (L := L) (n := xs.length) (k := k) (fun i => ze0 (pre ++ (xs.take i).map g) sep) base hend (fun k i hi => by
  have ex := List.getElem?_eq_getElem hi
  have hl := zku (pre ++ (xs.take i).map g) sep
  rw [zJH] at hl
  rw [hstep k i _ _ ex (by omega)]
  congr 1
  have hall : ∀ x ∈ pre ++ (xs.take i).map g, x ≠ [] := by
   intro x hx
   rcases List.mem_append.1 hx with hx | hx
   · exact hpre x hx
   · obtain ⟨y, hy, rfl⟩ := List.mem_map.1 hx; exact hg y (List.mem_of_mem_take hy)
  rw [zEX sep hall, List.take_add_one, ex, Option.toList_some, List.map_append, List.map_cons, List.map_nil, ← List.append_assoc pre, zz5]
  cases e : (pre ++ (xs.take i).map g).isEmpty
  · simp
  · simp only [if_true]
    rw [List.isEmpty_iff] at e; rw [e]; simp [zq2]) h0 hk
 rw [List.take_length] at this; exact this
theorem zFL {f : zai} (h : zgj f = true) (hw : zhv f) : zgw f.atom = true ∧ zhG f.atom ∧ zld f.exp := by
 rw [zh9] at h
 simp only [Bool.and_eq_true] at h
 have hw := (zlU _).1 hw
 exact ⟨h.2, hw.1, hw.2⟩
theorem zCn {f : zai} (h : zgj f = true) : zbI f ≠ [] := by
 rw [zh9] at h
 simp only [Bool.and_eq_true] at h
 obtain ⟨b, l, e, _⟩ := zsP h.2
 rw [zkb, e]; split <;> simp
theorem zAv {t : zal} (h : ztq t = true) (hw : zqE t) : (∀ f ∈ t.factors.l, zgj f = true ∧ zhv f) ∧ zld t.coeff ∧ 1 ≤ t.coeff := by
 rw [zoH] at h
 simp only [Bool.and_eq_true, Bool.not_eq_true', decide_eq_false_iff_not] at h
 have hw := (zqD _).1 hw
 have hf := h.1.2
 rw [zmS] at hf
 exact ⟨fun f hm => ⟨List.all_eq_true.1 hf f hm, (zoE _).1 hw.2 f hm⟩, hw.1, by omega⟩
theorem zNI (n : Int) (h : zld n) : zb7 n ≠ [] := (zvg h).2
theorem okr {n : Nat} (h : n ≤ 140737488355328) : okP (n ≤ zdd) = some () := zat h
theorem zgt : lim = 4294967281 := rfl
theorem zyt {c18 : Sl zal} {c19 : Str} {c20 : Nat} {t : zal} {sz kk k : Nat} {t0 : Str} (ht : c18.l[c20]? = some t) (hv : ztq t = true) (hw : zqE t) (h1 : zaB t.factors.l < lim) (h2 : 4 * zaB t.factors.l < sz) (h3 : t0.length ≤ 21) (hk : t.factors.l.length < k) :
 zdr c18 c19 c20 sz kk k t0 0 = some (.done (ze0 ((if t0 == [] then [] else [t0]) ++ t.factors.l.map zbI) [42], (t.factors.l.length : Int))) := by
 obtain ⟨hp, _, _⟩ := zAv hv hw
 have hlen := zod t.factors.l
 rw [zf9] at hlen
 have hn := zbM t.factors.l
 rw [zgt] at h1
 refine zGS (xs := t.factors.l) (L := zdr c18 c19 c20 sz kk) zbI [42] t0 (fun x hx => zCn (hp x hx).1) (fun k s => ?_) (fun k i x s hx hs => ?_) hk
 · simp [zdr, zbO, ht]
 · have hi := (List.getElem?_eq_some_iff.1 hx).1
   have hm := List.mem_of_getElem? hx
   obtain ⟨p1, p2, p3⟩ := zFL (hp x hm).1 (hp x hm).2
   have hsz := zcQ hx
   have hsz2 := zcA x
   have hla := zxQ x.atom
   have hit := zih x.exp
   have hj := zA9 (c := 3) (l := t.factors.l.map zbI) (zax hx zbI)
   have hjm := zq3 (show 1 ≤ 3 by omega) ((t.factors.l.take i).map zbI)
   rw [← List.map_take] at hj
   rw [show ([42] : Str).length = 1 from rfl] at hs
   have hb1 : big = 1152921504606846976 := rfl
   simp only [zdr, zbO, ht, zaf, zne, hx]
   rw [decide_eq_true (show (i : Int) < t.factors.l.length by omega), zaw, zdv, zaL (by omega)]
   have key : ∀ u : Str, u.length ≤ 140000000000000 → (bnd (okP (zgw x.atom = true ∧ zhG x.atom ∧ zbx x.atom < lim ∧ 4 * zbx x.atom < sz)) fun _ =>
    bnd (okP (u.length + (zfs x.atom).length ≤ zdd)) fun _ =>
    sel (bnd (okP ((u ++ zfs x.atom).length + [94].length ≤ zdd)) fun _ =>
     bnd (okP (zld x.exp)) fun _ =>
     bnd (okP ((u ++ zfs x.atom ++ [94]).length + (zb7 x.exp).length ≤ zdd)) fun _ =>
     zdr c18 c19 c20 sz kk k (u ++ zfs x.atom ++ [94] ++ zb7 x.exp) ((i + 1 : Nat) : Int))
    (zdr c18 c19 c20 sz kk k (u ++ zfs x.atom) ((i + 1 : Nat) : Int)) (x.exp != 1)) = zdr c18 c19 c20 sz kk k (u ++ zbI x) ((i + 1 : Nat) : Int) := by
    intro u hu
    rw [zat ⟨p1, p2, by rw [zgt]; omega, by omega⟩, zaf, okr (by omega), zaf, okr (by simp only [List.length_append, List.length_cons, List.length_nil]; omega), zaf, zat p3, zaf, okr (by simp only [List.length_append, List.length_cons, List.length_nil]; omega), zaf, zAE, zkb]
    split
    · rfl
    · simp
   cases e : (s == [])
   · rw [zbD, okr (by simp only [List.length_cons, List.length_nil]; omega), zaf, zaf, key _ (by simp only [List.length_append, List.length_cons, List.length_nil]; omega)]
     simp
   · rw [zaw, zaf, key _ (by omega)]; simp
theorem zyu {a : Sl zal} {sz kk k : Nat} (hv : zdl a.l = true) (hw : zbv a.l) (h1 : zak a.l < lim) (h2 : 4 * zak a.l < sz) (hk : a.l.length < k) (hkk : sz < kk) :
 zfx a sz kk k [] 0 = some (.done (ze0 (a.l.map zf7) zk0, (a.l.length : Int))) := by
 have hlen := zrR a.l
 rw [zsO] at hlen
 have hn := zb3 a.l
 rw [zn0] at hv
 rw [zgt] at h1
 refine zCp (xs := a.l) (L := zfx a sz kk) zf7 zk0 [] (fun k s => by simp [zfx]) (fun k i x s hx hs => ?_) hk
 have hi := (List.getElem?_eq_some_iff.1 hx).1
 have hm := List.mem_of_getElem? hx
 have hvx := List.all_eq_true.1 hv x hm
 have hwx := (zoC _).1 hw x hm
 obtain ⟨p1, p2, p3⟩ := zAv hvx hwx
 have hsz := zdh hx
 have hsz2 := zdm x
 have hsz3 := zbM x.factors.l
 have hlt := zJy x
 have hit := zih x.coeff
 have hj := zA9 (c := 3) (l := a.l.map zf7) (zax hx zf7)
 rw [← List.map_take] at hj
 rw [show zk0.length = 3 from rfl] at hs
 simp only [List.length_nil] at hs
 have hb1 : big = 1152921504606846976 := rfl
 simp only [zfx, znf, zbO, hx]
 rw [decide_eq_true (show (i : Int) < a.l.length by omega), zaw, zaL (by omega)]
 have hJ2 : ∀ u : Str, zjf a u (i : Int) ((x.coeff != 1) || ((x.factors.l.length : Int) == 0)) sz kk = some (if x.coeff = 1 ∧ x.factors.l ≠ [] then [] else zb7 x.coeff) := by
  intro u
  unfold zjf
  rw [zbO, hx, zaf, zat p2, zaf]
  by_cases hc : x.coeff = 1
  · by_cases hf : x.factors.l = []
    · rw [if_neg (fun e => e.2 hf), hf]; simp
    · have : ((x.factors.l.length : Int) == 0) = false := by
       simp; exact hf
      rw [if_pos ⟨hc, hf⟩, this, hc]; rfl
  · rw [if_neg (fun e => hc e.1), show (x.coeff != 1) = true by simpa using hc]; rfl
 have htx : ze0 ((if (if x.coeff = 1 ∧ x.factors.l ≠ [] then ([] : Str) else zb7 x.coeff) == [] then [] else [if x.coeff = 1 ∧ x.factors.l ≠ [] then [] else zb7 x.coeff]) ++ x.factors.l.map zbI) [42] = zf7 x := by
  rw [zn3]
  by_cases hc : x.coeff = 1 ∧ x.factors.l ≠ []
  · simp only [if_pos hc]
    have : x.factors.l.isEmpty = false := by
     cases e : x.factors.l with
     | nil => exact absurd e hc.2
     | cons => rfl
    rw [this, if_pos hc.1]; rfl
  · simp only [if_neg hc]
    have hne := zNI x.coeff p2
    rw [show (zb7 x.coeff == []) = false by simpa using hne, if_neg (by decide)]
    cases e : x.factors.l with
    | nil => simp [zhQ]
    | cons f l =>
      have : ¬ x.coeff = 1 := fun h => hc ⟨h, by rw [e]; simp⟩
      simp only [List.isEmpty_cons, Bool.false_eq_true, if_false, if_neg this, List.map_cons, List.cons_append, List.nil_append, ziJ]
 have key : ∀ u : Str, u.length ≤ 140000000000000 → (bnd (zjf a u (i : Int) ((x.coeff != 1) || ((x.factors.l.length : Int) == 0)) sz kk) fun q17 =>
  zhy (zdr a u (i : Int) sz kk kk q17 0) (fun r => some (.ret r)) fun q38 =>
   bnd (okP (u.length + q38.1.length ≤ zdd)) fun _ => zfx a sz kk k (u ++ q38.1) ((i + 1 : Nat) : Int)) = zfx a sz kk k (u ++ zf7 x) ((i + 1 : Nat) : Int) := by
  intro u hu
  rw [hJ2 u, zaf, zyt hx hvx hwx (by rw [zgt]; omega) (by omega) (by split; simp; exact hit) (by omega), zbE]
  simp only [htx]
  rw [okr (by omega), zaf]
 by_cases h0 : i = 0
 · subst h0
   rw [if_pos rfl, show decide ((0 : Int) < ((0 : Nat) : Int)) = false from rfl, zbD, zaf, zaf, key s (by omega)]
 · rw [if_neg h0, decide_eq_true (show (0 : Int) < (i : Int) by omega), zaw, okr (by simp only [List.length_cons, List.length_nil]; omega), zaf, zaf, zaf, key _ (by simp only [List.length_append, List.length_cons, List.length_nil]; omega)]
   rw [show ([32, 43, 32] : Str) = zk0 from rfl, List.append_assoc]
theorem zBX {kk sz : Nat} {a : Sl zal} (h : zdl a.l = true ∧ zbv a.l ∧ zak a.l < lim ∧ 4 * zak a.l + 1 < sz + 1) (hk : sz < kk) (hb : sz + 1 < big) : zr0 kk sz a = some (zcp a) := by
 obtain ⟨hv, hw, h1, h2⟩ := h
 have hn := zb3 a.l
 unfold zr0
 rw [zcr, zAz]
 by_cases he : (a.l.length : Int) = 0
 · have : a.l = [] := List.length_eq_zero_iff.1 (by omega)
   rw [if_pos he, this]; rfl
 · have : a.l.isEmpty = false := by
    cases e : a.l with
    | nil => rw [e] at he; exact absurd rfl he
    | cons => rfl
   rw [if_neg he, this, zyu hv hw h1 (by omega) (by omega) hk, zbE]; rfl
theorem zqH {x : zan} (hv : zgw x = true) (hw : zhG x) (hk : x.kind ≠ 0) {a : Sl zal} (ha : a ∈ x.args.l) : zdl a.l = true ∧ zbv a.l ∧ zak a.l + 1 ≤ zcv x.args.l := by
 have hw' := (ziF _).1 hw
 refine ⟨(zoI hv hk).1 a ha, (zu1 _).1 hw'.2.2.1 a ha, ?_⟩
 obtain ⟨i, h⟩ := List.getElem?_of_mem ha
 exact zfy h
theorem zFK {x : zan} (hv : zgw x = true) (hw : zhG x) (hk : x.kind ≠ 0) {a : zad} (ha : a ∈ x.items.l) : zdl a.ann.l = true ∧ zbv a.ann.l ∧ zwv a.value ∧ zec a + 1 ≤ za9 x.items.l := by
 have hw' := (ziF _).1 hw
 have hi := (zqF _).1 ((zoD _).1 hw'.2.2.2.2.1 a ha)
 refine ⟨(zoI hv hk).2 a ha, hi.2, hi.1, ?_⟩
 obtain ⟨i, h⟩ := List.getElem?_of_mem ha
 exact zhJ h
theorem zGJ {x : zan} (hv : zgw x = true) (hk : x.kind = 1) : ∃ a b, x.args.l = [a, b] := by
 rw [zln, if_neg (by omega), if_pos hk] at hv
 unfold k1B at hv
 simp only [Bool.and_eq_true, beq_iff_eq] at hv
 exact zIK hv.2.1.1
theorem zxa {x : zan} (hv : zgw x = true) (hk : x.kind = 2 ∨ x.kind = 3) : ∃ a, x.args.l = [a] := by
 rw [zln] at hv
 rcases hk with hk | hk
 · rw [if_neg (by omega), if_neg (by omega), if_pos hk] at hv
   unfold k2B at hv
   simp only [Bool.and_eq_true, beq_iff_eq] at hv
   exact zp4 hv.2.1.1
 · rw [if_neg (by omega), if_neg (by omega), if_neg (by omega), if_pos hk] at hv
   unfold k3B at hv
   simp only [Bool.and_eq_true, beq_iff_eq] at hv
   exact zp4 hv.2.1.1
theorem zzM {x : zan} (hv : zgw x = true) (h0 : x.kind ≠ 0) (h1 : x.kind ≠ 1) (h2 : x.kind ≠ 2) (h3 : x.kind ≠ 3) : x.kind = 4 ∧ 0 ≤ x.func ∧ x.func ≤ 3 ∧ 5 ≤ x.op ∧ x.op ≤ 10 := by
 rcases zvf hv with h | h | h | h | h
 · exact absurd h h0
 · exact absurd h h1
 · exact absurd h h2
 · exact absurd h h3
 · rw [zln, if_neg (by omega), if_neg (by omega), if_neg (by omega), if_neg (by omega), if_pos h] at hv
   unfold k4B at hv
   simp only [Bool.and_eq_true] at hv
   obtain ⟨a, b, c, d, _⟩ := zxS hv.2.1.1.2
   exact ⟨h, a, b, c, d⟩
theorem zI1 {x : zan} (hv : zgw x = true) (hk : x.kind = 0) : zdV x.row = true := by
 rw [zln, if_pos hk] at hv
 simp only [Bool.and_eq_true] at hv
 exact hv.1.1
theorem ztf {x : zan} {sz kk k : Nat} {base : Str} (hv : zgw x = true) (hw : zhG x) (hk0 : x.kind ≠ 0) (h1 : zbx x < lim) (h2 : 4 * zbx x < sz + 1) (hb : base.length ≤ 20) (hk : x.items.l.length < k) :
 zcP x sz kk k base 0 = some (.done (base ++ ze0 (x.items.l.map zf8) zkZ, (x.items.l.length : Int))) := by
 have hlen := ztV x.items.l
 rw [zhH] at hlen
 have hz := zcq x
 have hn := zcz x.items.l
 rw [zgt] at h1
 refine zCp (xs := x.items.l) (L := zcP x sz kk) zf8 zkZ base (fun k s => by simp [zcP]) (fun k i w s hx hs => ?_) hk
 have hi := (List.getElem?_eq_some_iff.1 hx).1
 have hm := List.mem_of_getElem? hx
 obtain ⟨p1, p2, p3, p4⟩ := zFK hv hw hk0 hm
 have hsz := ziG w
 have hl1 := zlQ w.value
 have hl2 := zq0 w.ann
 have hj := zA9 (c := 3) (l := x.items.l.map zf8) (zax hx zf8)
 have hjm := zq3 (show 2 ≤ 3 by omega) ((x.items.l.take i).map zf8)
 rw [← List.map_take] at hj
 rw [show zkZ.length = 2 from rfl] at hs
 have hb1 : big = 1152921504606846976 := rfl
 simp only [zcP, ziX, zbO, hx]
 rw [decide_eq_true (show (i : Int) < x.items.l.length by omega), zaw, zaL (by omega)]
 have key : ∀ u : Str, u.length ≤ 140000000000000 → (bnd (some w) fun y30 => bnd (okP (zld y30.value.int)) fun _ =>
  bnd (okP (u.length + (zdy y30.value).length ≤ zdd)) fun _ =>
  bnd (okP ((u ++ zdy y30.value).length + [58, 32].length ≤ zdd)) fun _ =>
  bnd (okP (zdl y30.ann.l = true ∧ zbv y30.ann.l ∧ zak y30.ann.l < lim ∧ 4 * zak y30.ann.l + 1 < sz)) fun _ =>
  bnd (okP ((u ++ zdy y30.value ++ [58, 32]).length + (zcp y30.ann).length ≤ zdd)) fun _ =>
  zcP x sz kk k (u ++ zdy y30.value ++ [58, 32] ++ zcp y30.ann) ((i + 1 : Nat) : Int)) = zcP x sz kk k (u ++ zf8 w) ((i + 1 : Nat) : Int) := by
  intro u hu
  rw [zaf, zat p3.2, zaf, okr (by omega), zaf, okr (by simp only [List.length_append, List.length_cons, List.length_nil]; omega), zaf, zat ⟨p1, p2, by rw [zgt]; omega, by omega⟩, zaf,
   okr (by simp only [List.length_append, List.length_cons, List.length_nil]; omega), zaf, zlW]
  congr 1
  simp [zp3]
 by_cases h0 : i = 0
 · subst h0
   rw [if_pos rfl, show decide ((0 : Int) < ((0 : Nat) : Int)) = false from rfl, zbD]
   exact key s (by omega)
 · rw [if_neg h0, decide_eq_true (show (0 : Int) < (i : Int) by omega), zaw, okr (by simp only [List.length_cons, List.length_nil]; omega), zaf, zaf (s ++ [59, 32]), key _ (by simp only [List.length_append, List.length_cons, List.length_nil]; omega)]
   rw [show ([59, 32] : Str) = zkZ from rfl, List.append_assoc]
theorem zAJ {r : zbw} (h : zdV r = true) : zrN r = zjc r := by unfold zrN zjc; rw [if_pos h]
theorem zvP {kk sz : Nat} {a : zan} (h : zgw a = true ∧ zhG a ∧ zbx a < lim ∧ 4 * zbx a < sz + 1) (hk : sz < kk) (hb : sz + 1 < big) : zkB kk sz a = some (zfs a) := by
 obtain ⟨hv, hw, h1, h2⟩ := h
 have hz := zcq a
 have hw' := (ziF _).1 hw
 have hn := zcz a.items.l
 have hlim := zgt
 have hla := zxQ a
 unfold zkB
 rw [zts, zcr]
 by_cases c0 : a.kind = 0
 · rw [if_pos c0, if_pos c0, zat hw'.2.1, zaf, zAJ (zI1 hv c0)]
 rw [if_neg c0, if_neg c0, zcr]
 by_cases c1 : a.kind = 1
 · obtain ⟨x, y, e⟩ := zGJ hv c1
   obtain ⟨p1, p2, p3⟩ := zqH hv hw c0 (a := x) (by rw [e]; simp)
   obtain ⟨q1, q2, q3⟩ := zqH hv hw c0 (a := y) (by rw [e]; simp)
   have l1 := zq0 x
   have l2 := zq0 y
   rw [if_pos c1, if_pos c1, e]
   simp only [List.getElem?_cons_zero, List.getElem?_cons_succ, zaf, List.map_cons, List.map_nil, Option.getD_some]
   rw [zat ⟨p1, p2, by omega, by omega⟩, zaf, okr (by simp only [List.length_append, List.length_cons, List.length_nil]; omega), zaf, okr (by simp only [List.length_append, List.length_cons, List.length_nil]; omega), zaf,
    zat ⟨q1, q2, by omega, by omega⟩, zaf, okr (by simp only [List.length_append, List.length_cons, List.length_nil]; omega), zaf, okr (by simp only [List.length_append, List.length_cons, List.length_nil]; omega), zaf]
   simp [zeY, zp2]
 rw [if_neg c1, if_neg c1, zcr]
 by_cases c2 : a.kind = 2
 · obtain ⟨x, e⟩ := zxa hv (.inl c2)
   obtain ⟨p1, p2, p3⟩ := zqH hv hw c0 (a := x) (by rw [e]; simp)
   have l1 := zq0 x
   rw [if_pos c2, if_pos c2, e]
   simp only [List.getElem?_cons_zero, zaf, List.map_cons, List.map_nil, Option.getD_some]
   rw [zat ⟨p1, p2, by omega, by omega⟩, zaf, okr (by simp only [List.length_append, List.length_cons, List.length_nil]; omega), zaf, okr (by simp only [List.length_append, List.length_cons, List.length_nil]; omega), zaf]
   simp [zeZ]
 rw [if_neg c2, if_neg c2, zcr]
 by_cases c3 : a.kind = 3
 · obtain ⟨x, e⟩ := zxa hv (.inr c3)
   obtain ⟨p1, p2, p3⟩ := zqH hv hw c0 (a := x) (by rw [e]; simp)
   have l1 := zq0 x
   rw [if_pos c3, if_pos c3, e]
   simp only [List.getElem?_cons_zero, zaf, List.map_cons, List.map_nil, Option.getD_some]
   rw [zat ⟨p1, p2, by omega, by omega⟩, zaf, okr (by simp only [List.length_append, List.length_cons, List.length_nil]; omega), zaf, okr (by simp only [List.length_append, List.length_cons, List.length_nil]; omega), zaf]
   simp [zcZ]
 rw [if_neg c3, if_neg c3]
 obtain ⟨c4, f0, f3, o5, o10⟩ := zzM hv c0 c1 c2 c3
 have l1 := zJW a.func
 have l2 := zJs (a.op - 5)
 have l3 := zlQ a.bound
 have l4 := zku (a.items.l.map zf8) zkZ
 have l5 := ztV a.items.l
 have l6 := zq3 (show 2 ≤ 3 by omega) (a.items.l.map zf8)
 rw [zhH] at l5
 rw [show zkZ.length = 2 from rfl] at l4
 rw [zat ⟨f0, f3⟩, zaf, okr (by simp only [List.length_append, List.length_cons, List.length_nil]; omega), zaf, okr (by simp only [List.length_append, List.length_cons, List.length_nil]; omega), zaf,
  ztf hv hw c0 h1 h2 (by simp only [List.length_append, List.length_cons, List.length_nil]; omega) (by omega), zbE]
 simp only
 rw [okr (by simp only [List.length_append, List.length_cons, List.length_nil]; omega), zaf, zat ⟨o5, o10⟩, zaf]
 unfold opS
 rw [okr (by simp only [List.length_append, List.length_cons, List.length_nil]; omega), zaf, okr (by simp only [List.length_append, List.length_cons, List.length_nil]; omega), zaf, zat hw'.2.2.2.2.2.2.2, zaf,
  okr (by simp only [List.length_append, List.length_cons, List.length_nil]; omega), zaf, okr (by simp only [List.length_append, List.length_cons, List.length_nil]; omega), zaf]
 simp [ziz, zkE]
theorem out_l {α : Type} (l : List α) : (Sl.out l).l = l := Sl.out_l l
theorem zko {a : Sl zai} {sz kk k : Nat} (hp : ∀ f ∈ a.l, zgj f = true ∧ zhv f) (h1 : zaB a.l < lim) (h2 : 4 * zaB a.l + 2 < sz + 1) (hk : a.l.length < k) :
 zbk a (a.l.length : Int) sz kk k [] 0 = some (.done (a.l.map zbI, (a.l.length : Int))) := by
 have hn := zbM a.l
 rw [zgt] at h1
 refine zre (xs := a.l) (L := zbk a (a.l.length : Int) sz kk) zbI (fun k s => by simp [zbk]) (fun k i x l hx hl => ?_) hk
 have hi := (List.getElem?_eq_some_iff.1 hx).1
 have hm := List.mem_of_getElem? hx
 obtain ⟨p1, p2, p3⟩ := zFL (hp x hm).1 (hp x hm).2
 have hsz := zcQ hx
 have hsz2 := zcA x
 have hla := zxQ x.atom
 have hit := zih x.exp
 have hb1 : big = 1152921504606846976 := rfl
 simp only [zbk, zbO, hx]
 rw [decide_eq_true (show (i : Int) < a.l.length by omega), zaw, zaL (by omega), zaf, zat ⟨p1, p2, by rw [zgt]; omega, by omega⟩, zaf, zAE, zkb]
 split
 · rw [okr (by omega), zaf]
 · rw [zat (zt3 p3), zaf, okr (by simp only [List.length_cons, List.length_nil]; omega), zaf, okr (by simp only [List.length_cons]; omega), zaf, okr (by omega), zaf]
theorem zla {kk sz : Nat} {a : Sl zai} (h : (∀ f ∈ a.l, zgj f = true ∧ zhv f) ∧ zaB a.l < lim ∧ 4 * zaB a.l + 2 < sz + 1) (hk : sz < kk) (hb : sz + 1 < big) : zdU kk sz a = some (ztr a) := by
 obtain ⟨hp, h1, h2⟩ := h
 have hn := zbM a.l
 have hlim := zgt
 have l4 := zku (a.l.map zbI) [42]
 have l5 := zod a.l
 have l6 := zq3 (show 1 ≤ 3 by omega) (a.l.map zbI)
 rw [zf9] at l5
 rw [show ([42] : Str).length = 1 from rfl] at l4
 unfold zdU
 rw [zko hp h1 h2 (by omega), zbE]
 simp only
 rw [zat (show ztZ (Sl.out (a.l.map zbI)).l [42] by rw [out_l]; exact ⟨by unfold zdd; omega, by unfold zdd; rw [List.length_map]; omega⟩), zaf]
 unfold zm4 ztr; rw [out_l]
theorem zqo {a : Sl zal} {sz kk k : Nat} (hv : zdl a.l = true) (hw : zbv a.l) (h1 : zak a.l < lim) (h2 : 4 * zak a.l + 1 < sz + 1) (hk : a.l.length < k) :
 zb4 a (a.l.length : Int) sz kk k [] 0 = some (.done (a.l.map zf7, (a.l.length : Int))) := by
 have hn := zb3 a.l
 rw [zn0] at hv
 rw [zgt] at h1
 refine zre (xs := a.l) (L := zb4 a (a.l.length : Int) sz kk) zf7 (fun k s => by simp [zb4]) (fun k i x l hx hl => ?_) hk
 have hi := (List.getElem?_eq_some_iff.1 hx).1
 have hm := List.mem_of_getElem? hx
 obtain ⟨p1, p2, p3⟩ := zAv (List.all_eq_true.1 hv x hm) ((zoC _).1 hw x hm)
 have hsz := zdh hx
 have hsz2 := zdm x
 have hit := zih x.coeff
 have l4 := zku (x.factors.l.map zbI) [42]
 have l5 := zod x.factors.l
 have l6 := zq3 (show 1 ≤ 3 by omega) (x.factors.l.map zbI)
 rw [zf9] at l5
 rw [show ([42] : Str).length = 1 from rfl] at l4
 have hb1 : big = 1152921504606846976 := rfl
 have hin : (zsY x.coeff && (10 : Int) == 10) = true := by rw [zt3 p2]; rfl
 have hF : (ztr x.factors).length ≤ 64 * zaB x.factors.l := by unfold ztr; omega
 simp only [zb4, zbO, hx]
 rw [decide_eq_true (show (i : Int) < a.l.length by omega), zaw, zaL (by omega), zaf, zcr, zcr, zn3]
 by_cases he : (x.factors.l.length : Int) = 0
 · have : x.factors.l.isEmpty = true := by rw [List.isEmpty_iff]; exact List.length_eq_zero_iff.1 (by omega)
   rw [if_pos he, if_pos this, zat hin, zaf, okr (by omega), zaf]; rfl
 · have : ¬ x.factors.l.isEmpty = true := by rw [List.isEmpty_iff]; intro e; rw [e] at he; exact he rfl
   rw [if_neg he, if_neg this]
   by_cases hc : x.coeff = 1
   · rw [if_pos hc, if_pos hc, zat ⟨p1, by rw [zgt]; omega, by omega⟩, zaf, okr (by omega), zaf]; rfl
   · rw [if_neg hc, if_neg hc, zat hin, zaf]
     unfold zt1
     rw [okr (by simp only [List.length_cons, List.length_nil]; omega), zaf, zat ⟨p1, by rw [zgt]; omega, by omega⟩, zaf, okr (by simp only [List.length_append, List.length_cons, List.length_nil]; omega), zaf, okr (by omega), zaf]
     congr 2
     unfold ztr; simp
theorem zsk {kk sz : Nat} {a : Sl zal} (h : zdl a.l = true ∧ zbv a.l ∧ zak a.l < lim ∧ 4 * zak a.l + 1 < sz + 1) (hk : sz < kk) (hb : sz + 1 < big) : ziu kk sz a = some (zcp a) := by
 obtain ⟨hv, hw, h1, h2⟩ := h
 have hn := zb3 a.l
 have hlim := zgt
 have l4 := zku (a.l.map zf7) zk0
 have l5 := zrR a.l
 rw [zsO] at l5
 rw [show zk0.length = 3 from rfl] at l4
 unfold ziu
 rw [zcr, zAz]
 by_cases he : (a.l.length : Int) = 0
 · have : a.l = [] := List.length_eq_zero_iff.1 (by omega)
   rw [if_pos he, this]; rfl
 · have : a.l.isEmpty = false := by
    cases e : a.l with
    | nil => rw [e] at he; exact absurd rfl he
    | cons => rfl
   rw [if_neg he, this, zqo hv hw h1 h2 (by omega), zbE]
   simp only
   rw [zat (show ztZ (Sl.out (a.l.map zf7)).l [32, 43, 32] by rw [out_l]; exact ⟨by unfold zdd; rw [show ([32, 43, 32] : Str) = zk0 from rfl]; omega, by unfold zdd; rw [List.length_map]; omega⟩), zaf]
   unfold zm4; rw [out_l]; rfl
theorem zlB {x : zan} {sz kk k : Nat} (hv : zgw x = true) (hw : zhG x) (hk0 : x.kind ≠ 0) (h1 : zbx x < lim) (h2 : 4 * zbx x < sz + 1) (hk : x.items.l.length < k) :
 zbQ x.items (x.items.l.length : Int) x sz kk k [] 0 = some (.done (x.items.l.map zf8, (x.items.l.length : Int))) := by
 have hz := zcq x
 have hn := zcz x.items.l
 rw [zgt] at h1
 refine zre (xs := x.items.l) (L := zbQ x.items (x.items.l.length : Int) x sz kk) zf8 (fun k s => by simp [zbQ]) (fun k i w l hx hl => ?_) hk
 have hi := (List.getElem?_eq_some_iff.1 hx).1
 have hm := List.mem_of_getElem? hx
 obtain ⟨p1, p2, p3, p4⟩ := zFK hv hw hk0 hm
 have hsz := ziG w
 have hl1 := zlQ w.value
 have hl2 := zq0 w.ann
 have hb1 : big = 1152921504606846976 := rfl
 simp only [zbQ, zbO, hx]
 rw [decide_eq_true (show (i : Int) < x.items.l.length by omega), zaw, zaL (by omega), zaf, zat p3.2, zaf, okr (by simp only [List.length_cons, List.length_nil]; omega), zaf, zat ⟨p1, p2, by rw [zgt]; omega, by omega⟩, zaf,
  okr (by simp only [List.length_append, List.length_cons, List.length_nil]; omega), zaf, okr (by omega), zaf, zlW]
 rfl
theorem zMM {l : List Str} {n : Int} (h0 : 0 ≤ n) (h : n < l.length) : ix l n = some (nth l n) := by
 obtain ⟨m, rfl⟩ : ∃ m : Nat, n = m := ⟨n.toNat, by omega⟩
 rw [zbO]; unfold nth
 rw [Int.toNat_natCast, List.getElem?_eq_getElem (by omega)]; rfl
theorem zmN {kk sz : Nat} {a : zan} (h : zgw a = true ∧ zhG a ∧ zbx a < lim ∧ 4 * zbx a < sz + 1) (hk : sz < kk) (hb : sz + 1 < big) : zfn kk sz a = some (zfs a) := by
 obtain ⟨hv, hw, h1, h2⟩ := h
 have hz := zcq a
 have hw' := (ziF _).1 hw
 have hn := zcz a.items.l
 have hlim := zgt
 have hla := zxQ a
 unfold zfn
 rw [zts, zcr]
 by_cases c0 : a.kind = 0
 · rw [if_pos c0, if_pos c0, zat hw'.2.1, zaf]
 rw [if_neg c0, if_neg c0, zcr]
 by_cases c1 : a.kind = 1
 · obtain ⟨x, y, e⟩ := zGJ hv c1
   obtain ⟨p1, p2, p3⟩ := zqH hv hw c0 (a := x) (by rw [e]; simp)
   obtain ⟨q1, q2, q3⟩ := zqH hv hw c0 (a := y) (by rw [e]; simp)
   have l1 := zq0 x
   have l2 := zq0 y
   rw [if_pos c1, if_pos c1, e]
   simp only [List.getElem?_cons_zero, List.getElem?_cons_succ, zaf, List.map_cons, List.map_nil, Option.getD_some]
   rw [zat ⟨p1, p2, by omega, by omega⟩, zaf, okr (by simp only [List.length_append, List.length_cons, List.length_nil]; omega), zaf, okr (by simp only [List.length_append, List.length_cons, List.length_nil]; omega), zaf,
    zat ⟨q1, q2, by omega, by omega⟩, zaf, okr (by simp only [List.length_append, List.length_cons, List.length_nil]; omega), zaf, okr (by simp only [List.length_append, List.length_cons, List.length_nil]; omega), zaf]
   simp [zeY, zp2]
 rw [if_neg c1, if_neg c1, zcr]
 by_cases c2 : a.kind = 2
 · obtain ⟨x, e⟩ := zxa hv (.inl c2)
   obtain ⟨p1, p2, p3⟩ := zqH hv hw c0 (a := x) (by rw [e]; simp)
   have l1 := zq0 x
   rw [if_pos c2, if_pos c2, e]
   simp only [List.getElem?_cons_zero, zaf, List.map_cons, List.map_nil, Option.getD_some]
   rw [zat ⟨p1, p2, by omega, by omega⟩, zaf, okr (by simp only [List.length_append, List.length_cons, List.length_nil]; omega), zaf, okr (by simp only [List.length_append, List.length_cons, List.length_nil]; omega), zaf]
   simp [zeZ]
 rw [if_neg c2, if_neg c2, zcr]
 by_cases c3 : a.kind = 3
 · obtain ⟨x, e⟩ := zxa hv (.inr c3)
   obtain ⟨p1, p2, p3⟩ := zqH hv hw c0 (a := x) (by rw [e]; simp)
   have l1 := zq0 x
   rw [if_pos c3, if_pos c3, e]
   simp only [List.getElem?_cons_zero, zaf, List.map_cons, List.map_nil, Option.getD_some]
   rw [zat ⟨p1, p2, by omega, by omega⟩, zaf, okr (by simp only [List.length_append, List.length_cons, List.length_nil]; omega), zaf, okr (by simp only [List.length_append, List.length_cons, List.length_nil]; omega), zaf]
   simp [zcZ]
 rw [if_neg c3, if_neg c3]
 obtain ⟨c4, f0, f3, o5, o10⟩ := zzM hv c0 c1 c2 c3
 have l1 := zJW a.func
 have l2 := zJs (a.op - 5)
 have l3 := zlQ a.bound
 have l4 := zku (a.items.l.map zf8) zkZ
 have l5 := ztV a.items.l
 have l6 := zq3 (show 2 ≤ 3 by omega) (a.items.l.map zf8)
 rw [zhH] at l5
 rw [show zkZ.length = 2 from rfl] at l4
 have hJ : zm4 (Sl.out (a.items.l.map zf8)) [59, 32] = ze0 (a.items.l.map zf8) zkZ := by unfold zm4; rw [out_l]; rfl
 rw [zlB hv hw c0 h1 h2 (by omega), zbE]
 simp only
 rw [hJ, show zkw.l = zc9 from rfl, show zgC.l = zc1 from rfl, zc3 (by omega) (by omega), zMM f0 (by rw [show zc9.length = 4 from rfl]; omega), zaf, zMM (show 0 ≤ a.op - 5 by omega) (by rw [show zc1.length = 6 from rfl]; omega)]
 rw [okr (by simp only [List.length_append, List.length_cons, List.length_nil]; omega), zaf, okr (by simp only [List.length_append, List.length_cons, List.length_nil]; omega), zaf,
  zat (show ztZ (Sl.out (a.items.l.map zf8)).l [59, 32] by rw [out_l]; exact ⟨by unfold zdd; rw [show ([59, 32] : Str) = zkZ from rfl]; omega, by unfold zdd; rw [List.length_map]; omega⟩), zaf,
  okr (by simp only [List.length_append, List.length_cons, List.length_nil]; omega), zaf, okr (by simp only [List.length_append, List.length_cons, List.length_nil]; omega), zaf, zaf,
  okr (by simp only [List.length_append, List.length_cons, List.length_nil]; omega), zaf, okr (by simp only [List.length_append, List.length_cons, List.length_nil]; omega), zaf, zat hw'.2.2.2.2.2.2.2, zaf,
  okr (by simp only [List.length_append, List.length_cons, List.length_nil]; omega), zaf, okr (by simp only [List.length_append, List.length_cons, List.length_nil]; omega), zaf]
 simp [ziz, zkE]
end Go.Ev
namespace Go.Ev
mutual
def zp0 : Int → Int → List zal → Int → Int
 | _, _, [], n => n
 | L, d, x :: xs, n => if n ≤ L then zp0 L d xs (zAr L d x n) else n
def zAr : Int → Int → zal → Int → Int
 | L, d, .mk _ ⟨_, fs⟩, n => zjh L d fs (n + 1 + fs.length)
def zjh : Int → Int → List zai → Int → Int
 | _, _, [], n => n
 | L, d, x :: xs, n => if n ≤ L then zjh L d xs (zoG L d x n) else n
def zoG : Int → Int → zai → Int → Int
 | L, d, .mk a _, n => zEi L d a n
def zEi : Int → Int → zan → Int → Int
 | L, d, .mk _ _ ⟨_, as⟩ _ ⟨_, is⟩ _ b, n => zqG L d is (zsN L d as (n + is.length + as.length + b.text.length))
def zsN : Int → Int → List (Sl zal) → Int → Int
 | _, _, [], n => n
 | L, d, ⟨_, x⟩ :: xs, n => if n ≤ L then zsN L d xs (n + (if d - 1 = 0 then L - n + 1 else zp0 (L - n) (d - 1) x 0)) else n
def zqG : Int → Int → List zad → Int → Int
 | _, _, [], n => n
 | L, d, x :: xs, n => if n ≤ L then zqG L d xs (zAs L d x n) else n
def zAs : Int → Int → zad → Int → Int
 | L, d, .mk v ⟨_, l⟩, n => n + v.text.length + (if d - 1 = 0 then L - n + 1 else zp0 (L - n) (d - 1) l 0)
end
def zAu (a : Sl zal) (L d : Int) : Int := if d = 0 then L + 1 else zp0 L d a.l 0
mutual
theorem zto : ∀ (l : List zal) (L d n : Int), 0 ≤ L → n ≤ zp0 L d l n ∧ zp0 L d l n ≤ max n (L + 1 + zak l)
 | [], L, d, n, h => by simp only [zp0]; omega
 | x :: xs, L, d, n, h => by
   simp only [zp0, zak]
   by_cases c : n ≤ L
   · rw [if_pos c]
     have h1 := zFI x L d n h c
     have h2 := zto xs L d (zAr L d x n) h
     omega
   · rw [if_neg c]; omega
theorem zFI : ∀ (x : zal) (L d n : Int), 0 ≤ L → n ≤ L → n ≤ zAr L d x n ∧ zAr L d x n ≤ L + 1 + zcF x
 | .mk c ⟨f, fs⟩, L, d, n, h, k => by
   have h1 := zxf fs L d (n + 1 + fs.length) h
   have h2 := zbM fs
   simp only [zAr, zcF]; omega
theorem zxf : ∀ (l : List zai) (L d n : Int), 0 ≤ L → n ≤ zjh L d l n ∧ zjh L d l n ≤ max n (L + 1 + zaB l)
 | [], L, d, n, h => by simp only [zjh]; omega
 | x :: xs, L, d, n, h => by
   simp only [zjh, zaB]
   by_cases c : n ≤ L
   · rw [if_pos c]
     have h1 := zzK x L d n h c
     have h2 := zxf xs L d (zoG L d x n) h
     omega
   · rw [if_neg c]; omega
theorem zzK : ∀ (x : zai) (L d n : Int), 0 ≤ L → n ≤ L → n ≤ zoG L d x n ∧ zoG L d x n ≤ L + 1 + zc4 x
 | .mk a e, L, d, n, h, k => by
   have h1 := zLb a L d n h k
   simp only [zoG, zc4]; omega
theorem zLb : ∀ (x : zan) (L d n : Int), 0 ≤ L → n ≤ L → n ≤ zEi L d x n ∧ zEi L d x n ≤ L + 1 + zbx x
 | .mk k r ⟨f1, as⟩ f ⟨f2, is⟩ o b, L, d, n, h, kk => by
   have h1 := zwV as L d (n + is.length + as.length + b.text.length) h
   have h2 := zCj is L d (zsN L d as (n + is.length + as.length + b.text.length)) h
   have h3 := zd2 as
   have h4 := zcz is
   simp only [zEi, zbx]; omega
theorem zwV : ∀ (l : List (Sl zal)) (L d n : Int), 0 ≤ L → n ≤ zsN L d l n ∧ zsN L d l n ≤ max n (L + 1 + zcv l)
 | [], L, d, n, h => by simp only [zsN]; omega
 | ⟨f, x⟩ :: xs, L, d, n, h => by
   simp only [zsN, zcv]
   by_cases c : n ≤ L
   · rw [if_pos c]
     by_cases e : d - 1 = 0
     · rw [if_pos e]
       have h2 := zwV xs L d (n + (L - n + 1)) h
       omega
     · rw [if_neg e]
       have h1 := zto x (L - n) (d - 1) 0 (by omega)
       have h2 := zwV xs L d (n + zp0 (L - n) (d - 1) x 0) h
       omega
   · rw [if_neg c]; omega
theorem zCj : ∀ (l : List zad) (L d n : Int), 0 ≤ L → n ≤ zqG L d l n ∧ zqG L d l n ≤ max n (L + 1 + za9 l)
 | [], L, d, n, h => by simp only [zqG]; omega
 | x :: xs, L, d, n, h => by
   simp only [zqG, za9]
   by_cases c : n ≤ L
   · rw [if_pos c]
     have h1 := zFJ x L d n h c
     have h2 := zCj xs L d (zAs L d x n) h
     omega
   · rw [if_neg c]; omega
theorem zFJ : ∀ (x : zad) (L d n : Int), 0 ≤ L → n ≤ L → n ≤ zAs L d x n ∧ zAs L d x n ≤ L + 1 + zec x
 | .mk v ⟨f, l⟩, L, d, n, h, c => by
   simp only [zAs, zec]
   by_cases e : d - 1 = 0
   · rw [if_pos e]; omega
   · rw [if_neg e]
     have h1 := zto l (L - n) (d - 1) 0 (by omega)
     omega
end
theorem zK8 (L d : Int) (x : zal) (n : Int) : zAr L d x n = zjh L d x.factors.l (n + 1 + x.factors.l.length) := by rcases x with ⟨c, ⟨f, l⟩⟩; simp only [zAr, zal.factors]
theorem zGN (L d : Int) (x : zai) (n : Int) : zoG L d x n = zEi L d x.atom n := by cases x; simp only [zoG, zai.atom]
theorem zLa (L d : Int) (x : zan) (n : Int) : zEi L d x n = zqG L d x.items.l (zsN L d x.args.l (n + x.items.l.length + x.args.l.length + x.bound.text.length)) := by
 rcases x with ⟨k, r, ⟨f, a⟩, fn, ⟨g, i⟩, o, b⟩; simp only [zEi, zan.args, zan.items, zan.bound]
theorem zK9 (L d : Int) (x : zad) (n : Int) : zAs L d x n = n + x.value.text.length + zAu x.ann (L - n) (d - 1) := by
 rcases x with ⟨v, ⟨f, l⟩⟩; simp only [zAs, zad.value, zad.ann, zAu]; first | done | rfl
theorem zGP (L d : Int) (x : Sl zal) (xs : List (Sl zal)) (n : Int) : zsN L d (x :: xs) n = if n ≤ L then zsN L d xs (n + zAu x (L - n) (d - 1)) else n := by
 cases x; simp only [zsN, zAu]; first | done | rfl
def zsT {α : Type} (L : Int) (f : α → Int → Int) : List α → Int → Int
 | [], n => n
 | x :: xs, n => if n ≤ L then zsT L f xs (f x n) else n
theorem zEg (L d : Int) (l : List zal) (n : Int) : zp0 L d l n = zsT L (zAr L d) l n := by
 induction l generalizing n with
 | nil => simp only [zp0, zsT]
 | cons x l ih => simp only [zp0, zsT, ih]
theorem zAt (L d : Int) (l : List zai) (n : Int) : zjh L d l n = zsT L (zoG L d) l n := by
 induction l generalizing n with
 | nil => simp only [zjh, zsT]
 | cons x l ih => simp only [zjh, zsT, ih]
theorem zEh (L d : Int) (l : List zad) (n : Int) : zqG L d l n = zsT L (zAs L d) l n := by
 induction l generalizing n with
 | nil => simp only [zqG, zsT]
 | cons x l ih => simp only [zqG, zsT, ih]
theorem zGO (L d : Int) (l : List (Sl zal)) (n : Int) : zsN L d l n = zsT L (fun x n => n + zAu x (L - n) (d - 1)) l n := by
 induction l generalizing n with
 | nil => simp only [zsN, zsT]
 | cons x l ih => rw [zGP]; simp only [zsT, ih]
theorem zty {α R : Type} {M : Nat → Int → Int → Option (Out R (Int × Int))} {xs : List α} (L : Int) (f : α → Int → Int) (P : Int → Prop)
 (hend : ∀ k n (i : Nat), (xs.length ≤ i ∨ ¬ n ≤ L) → M (k + 1) n (i : Int) = some (.done (n, (i : Int))))
 (hstep : ∀ k (i : Nat) x n, xs[i]? = some x → P n → n ≤ L → M (k + 1) n (i : Int) = M k (f x n) ((i + 1 : Nat) : Int) ∧ P (f x n)) :
 ∀ k (i : Nat) n, P n → i ≤ xs.length → xs.length - i < k → ∃ j : Nat, M k n (i : Int) = some (.done (zsT L f (xs.drop i) n, (j : Int))) := by
 intro k
 induction k with
 | zero => intro i n _ _ h; omega
 | succ k ih =>
   intro i n hP h1 h2
   by_cases e : i = xs.length
   · subst e; rw [hend k n _ (.inl (Nat.le_refl _)), List.drop_length]; exact ⟨_, rfl⟩
   · have hi : i < xs.length := by omega
     rw [List.drop_eq_getElem_cons hi]
     simp only [zsT]
     by_cases c : n ≤ L
     · obtain ⟨s1, s2⟩ := hstep k i _ n (List.getElem?_eq_getElem hi) hP c
       rw [s1, if_pos c]
       exact ih (i + 1) _ s2 (by omega) (by omega)
     · rw [hend k n i (.inr c), if_neg c]; exact ⟨_, rfl⟩
end Go.Ev
set_option linter.unusedVariables false
namespace Go.Ev
noncomputable def zfu (c26 : Sl zal) (c27 : Int) (c28 : Int) (c30 : Int) (c31 : Int) (c33 : zan) (sz : Nat) (kk : Nat) : Nat → Int → Int → Option (Out (Int) (Int × Int))
 | 0, _, _ => none
 | k + 1, s29, s32 =>
   sel (
    bnd (ix c33.items.l s32) fun (y34 : zad) =>
    bnd (okP ((zak y34.ann.l < sz ∧ zak y34.ann.l < lim ∧ 0 ≤ (IntKind.wrap .i64 (c27 - s29)) ∧ (IntKind.wrap .i64 (c27 - s29)) ≤ 4294967296 ∧ 0 ≤ (IntKind.wrap .i64 (c28 - 1)) ∧ (IntKind.wrap .i64 (c28 - 1)) ≤ 4294967296))) fun _ =>
    zfu c26 c27 c28 c30 c31 c33 sz kk k (IntKind.wrap .i64 ((IntKind.wrap .i64 (s29 + (y34.value.text.length : Int))) + (zAu y34.ann (IntKind.wrap .i64 (c27 - s29)) (IntKind.wrap .i64 (c28 - 1))))) (IntKind.wrap .i64 (s32 + 1))) (
    some (.done (s29, s32))) ((decide (s32 < (c33.items.l.length : Int))) && (decide (s29 ≤ c27)))
noncomputable def zfv (c15 : Sl zal) (c16 : Int) (c17 : Int) (c19 : Int) (c20 : Int) (c22 : zan) (sz : Nat) (kk : Nat) : Nat → Int → Int → Option (Out (Int) (Int × Int))
 | 0, _, _ => none
 | k + 1, s18, s21 =>
   sel (
    bnd (ix c22.args.l s21) fun (y23 : (Sl zal)) =>
    bnd (okP ((zak y23.l < sz ∧ zak y23.l < lim ∧ 0 ≤ (IntKind.wrap .i64 (c16 - s18)) ∧ (IntKind.wrap .i64 (c16 - s18)) ≤ 4294967296 ∧ 0 ≤ (IntKind.wrap .i64 (c17 - 1)) ∧ (IntKind.wrap .i64 (c17 - 1)) ≤ 4294967296))) fun _ =>
    zfv c15 c16 c17 c19 c20 c22 sz kk k (IntKind.wrap .i64 (s18 + (zAu y23 (IntKind.wrap .i64 (c16 - s18)) (IntKind.wrap .i64 (c17 - 1))))) (IntKind.wrap .i64 (s21 + 1))) (
    some (.done (s18, s21))) ((decide (s21 < (c22.args.l.length : Int))) && (decide (s18 ≤ c16)))
noncomputable def zfw (c7 : Sl zal) (c8 : Int) (c9 : Int) (c11 : Int) (sz : Nat) (kk : Nat) : Nat → Int → Int → Option (Out (Int) (Int × Int))
 | 0, _, _ => none
 | k + 1, s10, s12 =>
   bnd (ix c7.l c11) fun (y13 : zal) =>
   sel (
    bnd (ix y13.factors.l s12) fun (y14 : zai) =>
    zhy (zfv c7 c8 c9 c11 s12 y14.atom sz kk kk (IntKind.wrap .i64 ((IntKind.wrap .i64 ((IntKind.wrap .i64 (s10 + (y14.atom.items.l.length : Int))) + (y14.atom.args.l.length : Int))) + (y14.atom.bound.text.length : Int))) 0) (fun r => some (.ret r)) fun (q25 : Int × Int) =>
     zhy (zfu c7 c8 c9 c11 s12 y14.atom sz kk kk q25.1 0) (fun r => some (.ret r)) fun (q36 : Int × Int) =>
      zfw c7 c8 c9 c11 sz kk k q36.1 (IntKind.wrap .i64 (s12 + 1))) (
    some (.done (s10, s12))) ((decide (s12 < (y13.factors.l.length : Int))) && (decide (s10 ≤ c8)))
noncomputable def zgp (c1 : Sl zal) (c2 : Int) (c3 : Int) (sz : Nat) (kk : Nat) : Nat → Int → Int → Option (Out (Int) (Int × Int))
 | 0, _, _ => none
 | k + 1, s4, s5 =>
   sel (
    bnd (ix c1.l s5) fun (y6 : zal) =>
    zhy (zfw c1 c2 c3 s5 sz kk kk (IntKind.wrap .i64 ((IntKind.wrap .i64 (s4 + 1)) + (y6.factors.l.length : Int))) 0) (fun r => some (.ret r)) fun (q37 : Int × Int) =>
     zgp c1 c2 c3 sz kk k q37.1 (IntKind.wrap .i64 (s5 + 1))) (
    some (.done (s4, s5))) ((decide (s5 < (c1.l.length : Int))) && (decide (s4 ≤ c2)))
noncomputable def zng (kk : Nat) (sz : Nat) (a : (Sl zal)) (b : Int) (c : Int) : Option (Int) :=
 sel (
  some (IntKind.wrap .i64 (b + 1))) (
  zhy (zgp a b c sz kk kk 0 0) (fun r => some r) fun (q38 : Int × Int) =>
   some q38.1) (c == 0)
noncomputable def zi1 (c1 : Int) (c2 : Sl (Sl zal)) (kk : Nat) : Nat → Int → Option (Out (Bool) (Int))
 | 0, _ => none
 | k + 1, s3 =>
   sel (
    bnd (ix c2.l s3) fun (y4 : (Sl zal)) =>
    bnd (okP ((zak y4.l < big - 1 ∧ zak y4.l < lim ∧ 0 ≤ c1 ∧ c1 ≤ 4294967296 ∧ 0 ≤ (12 : Int) ∧ (12 : Int) ≤ 4294967296))) fun _ =>
    sel (
     some (.ret false)) (
     zi1 c1 c2 kk k (IntKind.wrap .i64 (s3 + 1))) (decide (c1 < (zAu y4 c1 12)))) (
    some (.done s3)) (decide (s3 < (c2.l.length : Int)))
noncomputable def zuN (kk : Nat) (a : Int) (b : (Sl (Sl zal))) : Option (Bool) :=
 zhy (zi1 a b kk kk 0) (fun r => some r) fun (q6 : Int) =>
  some true
end Go.Ev
namespace Go.Ev
theorem zID {x : Sl zal} {L d : Int} (h : 0 ≤ L) : 0 ≤ zAu x L d ∧ zAu x L d ≤ L + 1 + zak x.l := by
 unfold zAu
 split
 · omega
 · have := zto x.l L d 0 h; omega
theorem zvI {c26 : Sl zal} {L d c30 c31 : Int} {a : zan} {sz kk k : Nat} {n : Int} (h1 : za9 a.items.l < sz) (h2 : za9 a.items.l < lim) (hL : 0 ≤ L) (hL2 : L ≤ 4294967296) (hd : 1 ≤ d) (hd2 : d ≤ 4294967296) (hn : 0 ≤ n) (hk : a.items.l.length < k) :
 ∃ j : Nat, zfu c26 L d c30 c31 a sz kk k n 0 = some (.done (zqG L d a.items.l n, (j : Int))) := by
 have hlen := zcz a.items.l
 have hb1 : big = 1152921504606846976 := rfl
 rw [zgt] at h2
 have := zty (M := zfu c26 L d c30 c31 a sz kk) (xs := a.items.l) L (zAs L d) (fun n => 0 ≤ n) (fun k n i hi => ?_) (fun k i x n hx hn hnL => ?_) k 0 n hn (by omega) (by omega)
 · rw [List.drop_zero] at this
   rw [zEh]; exact this
 · rw [zfu]
   rcases hi with hi | hi
   · rw [decide_eq_false (by omega)]; rfl
   · rw [decide_eq_false hi, Bool.and_false]; rfl
 · have hi := (List.getElem?_eq_some_iff.1 hx).1
   have hsz := zhJ hx
   have hsz2 := ziG x
   have hbd := zFJ x L d n hL hnL
   have hbd2 := zID (x := x.ann) (L := L - n) (d := d - 1) (by omega)
   have hlim := zgt
   refine ⟨?_, by omega⟩
   rw [zK9] at hbd ⊢
   rw [zfu, decide_eq_true (show (i : Int) < a.items.l.length by omega), decide_eq_true hnL, Bool.and_self, zaw, zbO, hx, zaf]
   rw [zc3 (n := L - n) (by omega) (by omega), zc3 (n := d - 1) (by omega) (by omega), zat ⟨by omega, by omega, by omega, by omega, by omega, by omega⟩, zaf, zaL (by omega), zc3 (n := n + _) (by omega) (by omega), zc3 (by omega) (by omega)]
theorem zvJ {c15 : Sl zal} {L d c19 c20 : Int} {a : zan} {sz kk k : Nat} {n : Int} (h1 : zcv a.args.l < sz) (h2 : zcv a.args.l < lim) (hL : 0 ≤ L) (hL2 : L ≤ 4294967296) (hd : 1 ≤ d) (hd2 : d ≤ 4294967296) (hn : 0 ≤ n) (hk : a.args.l.length < k) :
 ∃ j : Nat, zfv c15 L d c19 c20 a sz kk k n 0 = some (.done (zsN L d a.args.l n, (j : Int))) := by
 have hlen := zd2 a.args.l
 have hb1 : big = 1152921504606846976 := rfl
 rw [zgt] at h2
 have := zty (M := zfv c15 L d c19 c20 a sz kk) (xs := a.args.l) L (fun x n => n + zAu x (L - n) (d - 1)) (fun n => 0 ≤ n) (fun k n i hi => ?_) (fun k i x n hx hn hnL => ?_) k 0 n hn (by omega) (by omega)
 · rw [List.drop_zero] at this
   rw [zGO]; exact this
 · rw [zfv]
   rcases hi with hi | hi
   · rw [decide_eq_false (by omega)]; rfl
   · rw [decide_eq_false hi, Bool.and_false]; rfl
 · have hi := (List.getElem?_eq_some_iff.1 hx).1
   have hsz := zfy hx
   have hbd2 := zID (x := x) (L := L - n) (d := d - 1) (by omega)
   have hlim := zgt
   refine ⟨?_, by omega⟩
   rw [zfv, decide_eq_true (show (i : Int) < a.args.l.length by omega), decide_eq_true hnL, Bool.and_self, zaw, zbO, hx, zaf]
   rw [zc3 (n := L - n) (by omega) (by omega), zc3 (n := d - 1) (by omega) (by omega), zat ⟨by omega, by omega, by omega, by omega, by omega, by omega⟩, zaf, zaL (by omega), zc3 (by omega) (by omega)]
theorem zvK {c7 : Sl zal} {L d : Int} {p : Nat} {t : zal} {sz kk k : Nat} {n : Int} (ht : c7.l[p]? = some t) (h1 : zcF t < sz) (h2 : zcF t < lim) (hL : 0 ≤ L) (hL2 : L ≤ 4294967296) (hd : 1 ≤ d) (hd2 : d ≤ 4294967296) (hn : 0 ≤ n) (hk : t.factors.l.length < k) (hkk : sz < kk) :
 ∃ j : Nat, zfw c7 L d (p : Int) sz kk k n 0 = some (.done (zjh L d t.factors.l n, (j : Int))) := by
 have hlen := zbM t.factors.l
 have hzt := zdm t
 have hb1 : big = 1152921504606846976 := rfl
 rw [zgt] at h2
 have := zty (M := zfw c7 L d (p : Int) sz kk) (xs := t.factors.l) L (zoG L d) (fun n => 0 ≤ n) (fun k n i hi => ?_) (fun k i x n hx hn hnL => ?_) k 0 n hn (by omega) (by omega)
 · rw [List.drop_zero] at this
   rw [zAt]; exact this
 · rw [zfw, zbO, ht, zaf]
   rcases hi with hi | hi
   · rw [decide_eq_false (by omega)]; rfl
   · rw [decide_eq_false hi, Bool.and_false]; rfl
 · have hi := (List.getElem?_eq_some_iff.1 hx).1
   have hsz := zcQ hx
   have hsz2 := zcA x
   have hsz3 := zcq x.atom
   have hsz4 := zd2 x.atom.args.l
   have hsz5 := zcz x.atom.items.l
   have hbd := zzK x L d n hL hnL
   have hbd1 := zwV x.atom.args.l L d (n + x.atom.items.l.length + x.atom.args.l.length + x.atom.bound.text.length) hL
   have hlim := zgt
   refine ⟨?_, by omega⟩
   obtain ⟨j2, e2⟩ := zvJ (c15 := c7) (L := L) (d := d) (c19 := (p : Int)) (c20 := (i : Int)) (a := x.atom) (sz := sz) (kk := kk) (k := kk) (n := n + x.atom.items.l.length + x.atom.args.l.length + x.atom.bound.text.length) (by omega) (by omega) hL hL2 hd hd2 (by omega) (by omega)
   obtain ⟨j3, e3⟩ := zvI (c26 := c7) (L := L) (d := d) (c30 := (p : Int)) (c31 := (i : Int)) (a := x.atom) (sz := sz) (kk := kk) (k := kk) (n := zsN L d x.atom.args.l (n + x.atom.items.l.length + x.atom.args.l.length + x.atom.bound.text.length)) (by omega) (by omega) hL hL2 hd hd2 (by omega) (by omega)
   rw [zfw, zbO, ht, zaf, decide_eq_true (show (i : Int) < t.factors.l.length by omega), decide_eq_true hnL, Bool.and_self, zaw, zbO, hx, zaf]
   rw [zc3 (n := n + _) (by omega) (by omega), zc3 (n := n + _ + _) (by omega) (by omega), zc3 (n := n + _ + _ + _) (by omega) (by omega), e2, zbE]
   simp only
   rw [e3, zbE, zaL (by omega), zGN, zLa]
theorem zyD {kk sz : Nat} {a : Sl zal} {b c : Int} (h : zak a.l < sz + 1 ∧ zak a.l < lim ∧ 0 ≤ b ∧ b ≤ 4294967296 ∧ 0 ≤ c ∧ c ≤ 4294967296) (hk : sz < kk) (_hb : sz + 1 < big) : zng kk sz a b c = some (zAu a b c) := by
 obtain ⟨h1, h2, h3, h4, h5, h6⟩ := h
 have hlen := zb3 a.l
 have hb1 : big = 1152921504606846976 := rfl
 rw [zgt] at h2
 unfold zng zAu
 rw [zcr]
 by_cases hc : c = 0
 · rw [if_pos hc, if_pos hc, zc3 (by omega) (by omega)]
 · rw [if_neg hc, if_neg hc]
   have := zty (M := zgp a b c sz kk) (xs := a.l) b (zAr b c) (fun n => 0 ≤ n) (fun k n i hi => ?_) (fun k i x n hx hn hnL => ?_) kk 0 0 (by omega) (by omega) (by omega)
   · obtain ⟨j, e⟩ := this
     rw [List.drop_zero, show ((0 : Nat) : Int) = 0 from rfl] at e
     rw [e, zbE, zEg]
   · rw [zgp]
     rcases hi with hi | hi
     · rw [decide_eq_false (by omega)]; rfl
     · rw [decide_eq_false hi, Bool.and_false]; rfl
   · have hi := (List.getElem?_eq_some_iff.1 hx).1
     have hsz := zdh hx
     have hsz2 := zdm x
     have hsz3 := zbM x.factors.l
     have hbd := zFI x b c n h3 hnL
     have hlim := zgt
     refine ⟨?_, by omega⟩
     obtain ⟨j, e⟩ := zvK (c7 := a) (L := b) (d := c) (p := i) (t := x) (sz := sz) (kk := kk) (k := kk) (n := n + 1 + x.factors.l.length) hx (by omega) (by omega) h3 h4 (by omega) h6 (by omega) (by omega) hk
     rw [zgp, decide_eq_true (show (i : Int) < a.l.length by omega), decide_eq_true hnL, Bool.and_self, zaw, zbO, hx, zaf]
     rw [zc3 (n := n + 1) (by omega) (by omega), zc3 (n := n + 1 + _) (by omega) (by omega), e, zbE, zaL (by omega), zK8]
def zRK (L : Int) (l : Sl (Sl zal)) : Bool := l.l.all fun a => decide (zAu a L 12 ≤ L)
theorem zD3 {kk : Nat} {a : Int} {b : Sl (Sl zal)} (h : 0 ≤ a ∧ a ≤ 4294967296 ∧ zcv b.l < lim) (hk : b.l.length < kk) : zuN kk a b = some (zRK a b) := by
 obtain ⟨h1, h2, h3⟩ := h
 have hlen := zd2 b.l
 have hb1 : big = 1152921504606846976 := rfl
 rw [zgt] at h3
 unfold zuN zRK
 rw [zol (xs := b.l) (L := zi1 a b kk) (fun x => !decide (zAu x a 12 ≤ a)) false (fun k => by simp [zi1]) (fun k i x hi ex => ?_) hk, zps]
 · generalize b.l.all _ = u; cases u <;> rfl
 · have hx := zfy ex
   simp only [zi1, zdL, decide_eq_true hi, zaw, zbO, ex, zaf]
   rw [zat ⟨by omega, by rw [zgt]; omega, h1, h2, by omega, by omega⟩, zaf, zaL (by omega)]
   by_cases c : zAu x a 12 ≤ a
   · rw [decide_eq_true c, decide_eq_false (by omega)]; rfl
   · rw [decide_eq_false c, decide_eq_true (by omega)]; rfl
end Go.Ev
set_option linter.unusedVariables false
namespace Go.Ev
def zH9 (s : Str) : Bool := s.all fun b => decide (b.toNat < 128)
def zj7 (a b : Str) : Bool := b.isPrefixOf a
def zgV (a b : Str) : Str × Bool := ((zaP b a).2, (zaP b a).1)
def zkc (a b : Str) : Str := (zaP b a).2
def zpg (a b : Str) : Str := a.dropWhile fun x => b.contains x
def zaQ (p : zab) (b : Str) : Bool × zab := ((zaP b p.rest).1, ⟨(zaP b p.rest).2⟩)
def zl0 (p : zab) (b : Str) : Str × zab := ((ztH b p.rest).1, ⟨(ztH b p.rest).2⟩)
def zk1 (p : zab) : Int × Bool × zab := ((zg5 p.rest).1, (zg5 p.rest).2.1, ⟨(zg5 p.rest).2.2⟩)
def zxU (a : Int) : Bool := decide (48 ≤ a) && decide (a ≤ 57)
def zmT (s : Str) : Str × Bool := ((zia s).getD (if 2 ≤ s.length ∧ s.head? = some 39 ∧ s.getLast? = some 39 then zlV (s.drop 1).dropLast else []), (zia s).isSome)
def zkF (p : zab) : Val × Bool × zab := ((ze9 p.rest).1, (ze9 p.rest).2.1, ⟨(ze9 p.rest).2.2⟩)
noncomputable def zeg (kk : Nat) (a : Str) (b : Str) : Option (Bool) :=
 sel (
  bnd (zzO a none (some (b.length : Int))) fun (y1 : Str) =>
  some (y1 == b)) (
  some false) (decide ((b.length : Int) ≤ (a.length : Int)))
noncomputable def zi2 (kk : Nat) (a : Str) (b : Str) : Option (Bool) :=
 some ((zj7 a b))
noncomputable def zeh (kk : Nat) (a : Str) (b : Str) : Option (Str × Bool) :=
 sel (
  some (a, false)) (
  bnd (zzO a (some (b.length : Int)) none) fun (y1 : Str) =>
  some (y1, true)) (!((zj7 a b)))
noncomputable def zi3 (kk : Nat) (a : Str) (b : Str) : Option (Str × Bool) :=
 some ((zgV a b).1, ((zgV a b).2))
noncomputable def zdQ (kk : Nat) (a : Str) (b : Str) : Option (Str) :=
 sel (
  bnd (zzO a (some (b.length : Int)) none) fun (y1 : Str) =>
  some y1) (
  some a) ((zj7 a b))
noncomputable def ziE (kk : Nat) (a : Str) (b : Str) : Option (Str) :=
 some (zkc a b)
noncomputable def zc7 (c5 : Str) (c6 : Str) (c7 : Int) (c8 : Int) (c10 : Str) (c12 : Str) (kk : Nat) : Nat → Bool → Nat → Nat → Option (Out (Str) (Bool × Nat × Nat))
 | 0, _, _, _ => none
 | k + 1, s9, s11, s13 =>
   sel (
    zc7 c5 c6 c7 c8 c10 c12 kk k ((s9) || (c8 == ((Utf8.decode ⟨c12.toArray⟩ s13).1))) s11 (s13 + (Utf8.decode ⟨c12.toArray⟩ s13).2)) (
    some (.done ((s9), s11, s13))) (ltn s13 c12.length)
noncomputable def zc8 (c1 : Str) (c2 : Str) (c3 : Str) (kk : Nat) : Nat → Nat → Option (Out (Str) (Nat))
 | 0, _ => none
 | k + 1, s4 =>
   sel (
    zhy (zc7 c1 c2 (s4 : Int) ((Utf8.decode ⟨c3.toArray⟩ s4).1) c3 c2 kk kk false (s4 + (Utf8.decode ⟨c3.toArray⟩ s4).2) 0) (fun r => some (.ret r)) fun (q14 : Bool × Nat × Nat) =>
     sel (
      bnd (zzO c1 (some (s4 : Int)) none) fun (y15 : Str) =>
      some (.ret y15)) (
      zc8 c1 c2 c3 kk k q14.2.1) (!(q14.1))) (
    some (.done s4)) (ltn s4 c3.length)
noncomputable def zgM (kk : Nat) (a : Str) (b : Str) : Option (Str) :=
 zhy (zc8 a b a kk kk 0) (fun r => some r) fun (q16 : Nat) =>
  some []
noncomputable def zgT (kk : Nat) (a : zab) (b : Str) : Option (Bool × zab) :=
 some (((zgV a.rest b).2), (a.setRest ((zgV a.rest b).1)))
noncomputable def zfl (kk : Nat) (a : zab) (b : Str) : Option (Str × zab) :=
 bnd (okP (a.rest.length < lim ∧ b.length < lim ∧ zH9 b = true)) fun _ =>
 bnd (zzO a.rest none (some (IntKind.wrap .i64 ((a.rest.length : Int) - ((zpg a.rest b).length : Int))))) fun (y2 : Str) =>
 some (y2, (a.setRest (zpg a.rest b)))
noncomputable def zdT (kk : Nat) (a : zab) : Option (Int × Bool × zab) :=
 bnd (okP (a.rest.length < lim ∧ [48, 49, 50, 51, 52, 53, 54, 55, 56, 57].length < lim ∧ zH9 [48, 49, 50, 51, 52, 53, 54, 55, 56, 57] = true)) fun _ =>
 bnd (okP (zu9 ((zl0 a [48, 49, 50, 51, 52, 53, 54, 55, 56, 57]).1) (10 : Int) (64 : Int))) fun _ =>
 some ((znu ((zl0 a [48, 49, 50, 51, 52, 53, 54, 55, 56, 57]).1) 10 64).1, ((znu ((zl0 a [48, 49, 50, 51, 52, 53, 54, 55, 56, 57]).1) 10 64).2), (zl0 a [48, 49, 50, 51, 52, 53, 54, 55, 56, 57]).2)
noncomputable def zkq (kk : Nat) (a : Int) : Option (Bool) :=
 some ((decide (48 ≤ a)) && (decide (a ≤ 57)))
noncomputable def ziq (kk : Nat) (a : Int) : Option (Bool) :=
 some (!((zxU a)))
noncomputable def zbh (c1 : Bool) (c2 : Str) (kk : Nat) : Nat → Nat → Option (Out (Int) (Nat))
 | 0, _ => none
 | k + 1, s3 =>
   sel (
    bnd (ziq kk ((Utf8.decode ⟨c2.toArray⟩ s3).1)) fun (r4 : Bool) =>
    sel (
     some (.ret (s3 : Int))) (
     zbh c1 c2 kk k (s3 + (Utf8.decode ⟨c2.toArray⟩ s3).2)) (((r4) && (c1)) || ((!(r4)) && (!(c1))))) (
    some (.done s3)) (ltn s3 c2.length)
noncomputable def zb5 (kk : Nat) (a : Str) (c : Bool) : Option (Int) :=
 zhy (zbh (c) a kk kk 0) (fun r => some r) fun (q5 : Nat) =>
  some (-1)
noncomputable def zb6 (kk : Nat) (a : Str) : Option (Int) :=
 bnd (zb5 kk a true) fun (r1 : Int) =>
 some r1
noncomputable def zbB (kk : Nat) (a : Str) : Option (Bool) :=
 bnd (zb6 kk a) fun (r1 : Int) =>
 some (decide (0 ≤ r1))
noncomputable def zgS (c1 : Str) (kk : Nat) : Option (Bool) :=
 sel (
  bnd (c1[0]?) fun (y2 : UInt8) =>
  sel (
   bnd (zbB kk c1) fun (r3 : Bool) =>
   some (r3)) (
   some true) (!((y2.toNat : Int) == 48))) (
  some true) (!(c1 == []))
noncomputable def zjW (kk : Nat) (a : Str) : Option (Int × Int) :=
 bnd (zgS a kk) fun (q4 : Bool) =>
 sel (
  some (0, 3)) (
  bnd (okP (a.length < lim)) fun _ =>
  sel (
   some (0, 2)) (
   some ((zi8 a).1, 0)) (!((zi8 a).2))) (q4)
noncomputable def zkz (kk : Nat) (a : Str) : Option (zbw × Int) :=
 bnd (okP (((zgV a [116]).1).length < lim)) fun _ =>
 sel (
  some (zbw.zero, 3)) (
  bnd (okP (((zBC ((zgV a [116]).1) [46]).1).length < lim)) fun _ =>
  bnd (okP (((zBC ((zgV a [116]).1) [46]).2.1).length < lim)) fun _ =>
  sel (
   some (zbw.zero, 3)) (
   sel (
    some (zbw.zero, 2)) (
    some (((zbw.zero.setTable ((zhK ((zBC ((zgV a [116]).1) [46]).1)).1)).setSeq ((zhK ((zBC ((zgV a [116]).1) [46]).2.1)).1)), 0)) ((((zhK ((zBC ((zgV a [116]).1) [46]).1)).2) != 0) || (((zhK ((zBC ((zgV a [116]).1) [46]).2.1)).2) != 0))) ((((zhK ((zBC ((zgV a [116]).1) [46]).1)).2) == 3) || (((zhK ((zBC ((zgV a [116]).1) [46]).2.1)).2) == 3))) ((!((zgV a [116]).2)) || (!((zBC ((zgV a [116]).1) [46]).2.2)))
noncomputable def zgR (c1 : Str) (kk : Nat) : Option (Bool) :=
 sel (
  bnd (c1[0]?) fun (y2 : UInt8) =>
  sel (
   bnd (ix c1 (IntKind.wrap .i64 ((c1.length : Int) - 1))) fun (y3 : UInt8) =>
   some ((y3.toNat : Int) != 39)) (
   some true) (!((y2.toNat : Int) != 39))) (
  some true) (!(decide ((c1.length : Int) < 2)))
noncomputable def zjU (kk : Nat) (a : Str) : Option (Str × Bool) :=
 bnd (zgR a kk) fun (q4 : Bool) =>
 sel (
  some ([], false)) (
  bnd (zzO a (some 1) (some (IntKind.wrap .i64 ((a.length : Int) - 1)))) fun (y5 : Str) =>
  bnd (okP (zv4 y5 [39, 39] [])) fun _ =>
  bnd (okP (zv4 y5 [39, 39] [39])) fun _ =>
  bnd (okP ((zlX y5 [39, 39] []).length < lim)) fun _ =>
  some ((zlX y5 [39, 39] [39]), (!((zL0 (zlX y5 [39, 39] []) [39]))))) (q4)
noncomputable def zip (kk : Nat) (a : Str) : Option (Bool) :=
 sel (
  bnd ((zkc a [45])[0]?) fun (y1 : UInt8) =>
  sel (
   some false) (
   bnd (okP (zFN (zkc a [45]) [48, 49, 50, 51, 52, 53, 54, 55, 56, 57])) fun _ =>
   some ((trimS (zkc a [45]) [48, 49, 50, 51, 52, 53, 54, 55, 56, 57]) == [])) (((y1.toNat : Int) == 48) && (!(a == [48])))) (
  some false) (!((zkc a [45]) == []))
noncomputable def zlD (kk : Nat) (a : Str) : Option (Val × Int) :=
 sel (
  some (((Val.zero.setKind 2).setInt 1), 0)) (
  sel (
   some ((Val.zero.setKind 2), 0)) (
   bnd (okP (a.length < lim)) fun _ =>
   sel (
    sel (
     some (Val.zero, 6)) (
     some (((Val.zero.setKind 1).setText ((zmT a).1)), 0)) (decide (255 < (((zmT a).1).length : Int)))) (
    bnd (okP (a.length < lim)) fun _ =>
    sel (
     some (Val.zero, 3)) (
     bnd (okP (zu9 a (10 : Int) (64 : Int))) fun _ =>
     sel (
      some (Val.zero, 2)) (
      some ((Val.zero.setInt ((znu a 10 64).1)), 0)) (!((znu a 10 64).2))) (!((zwe a)))) ((zmT a).2)) (a == [70, 65, 76, 83, 69])) (a == [84, 82, 85, 69])
noncomputable def zdg (c4 : Int) (c5 : zab) (c6 : Val) (kk : Nat) : Option (Bool) :=
 sel (
  bnd (ix c5.rest c4) fun (y7 : UInt8) =>
  sel (
   bnd (zzO c5.rest (some c4) none) fun (y8 : Str) =>
   some ((zj7 y8 [39, 39]))) (
   some true) (!((y7.toNat : Int) != 39))) (
  some false) (decide (c4 < (c5.rest.length : Int)))
noncomputable def zbJ (c2 : zab) (c3 : Val) (kk : Nat) : Nat → Int → Option (Out (Val × Bool × zab) (Int))
 | 0, _ => none
 | k + 1, s1 =>
   bnd (zdg s1 c2 c3 kk) fun (q9 : Bool) =>
   sel (
    bnd (ix c2.rest s1) fun (y10 : UInt8) =>
    sel (
     zbJ c2 c3 kk k (IntKind.wrap .i64 ((IntKind.wrap .i64 (s1 + 1)) + 1))) (
     zbJ c2 c3 kk k (IntKind.wrap .i64 (s1 + 1))) ((y10.toNat : Int) == 39)) (
    some (.done s1)) (q9)
noncomputable def zdG (kk : Nat) (a : zab) : Option (Val × Bool × zab) :=
 sel (
  zhy (zbJ a Val.zero kk kk 1) (fun r => some r) fun (q11 : Int) =>
   sel (
    some (Val.zero, false, a)) (
    bnd (zzO a.rest none (some (IntKind.wrap .i64 (q11 + 1)))) fun (y12 : Str) =>
    bnd (zzO a.rest (some (IntKind.wrap .i64 (q11 + 1))) none) fun (y13 : Str) =>
    bnd (okP (y12.length < lim)) fun _ =>
    some ((ze8 y12).1, (((ze8 y12).2) == 0), (a.setRest y13))) (decide ((a.rest.length : Int) ≤ q11))) (
  bnd (okP (a.rest.length < lim ∧ [45, 48, 49, 50, 51, 52, 53, 54, 55, 56, 57, 84, 82, 85, 69, 70, 65, 76, 83, 69].length < lim ∧ zH9 [45, 48, 49, 50, 51, 52, 53, 54, 55, 56, 57, 84, 82, 85, 69, 70, 65, 76, 83, 69] = true)) fun _ =>
  bnd (okP (((zl0 a [45, 48, 49, 50, 51, 52, 53, 54, 55, 56, 57, 84, 82, 85, 69, 70, 65, 76, 83, 69]).1).length < lim)) fun _ =>
  some ((ze8 ((zl0 a [45, 48, 49, 50, 51, 52, 53, 54, 55, 56, 57, 84, 82, 85, 69, 70, 65, 76, 83, 69]).1)).1, (((ze8 ((zl0 a [45, 48, 49, 50, 51, 52, 53, 54, 55, 56, 57, 84, 82, 85, 69, 70, 65, 76, 83, 69]).1)).2) == 0), (zl0 a [45, 48, 49, 50, 51, 52, 53, 54, 55, 56, 57, 84, 82, 85, 69, 70, 65, 76, 83, 69]).2)) ((zj7 a.rest [39]))
end Go.Ev
set_option linter.unusedVariables false
namespace Go.Ev
def zv3 (a : Sl Str) : Prop := a.l.length < 100 ∧ ∀ w ∈ a.l, w.length < 100
def zE0 (a : Sl Str) (p : zab) : Int × zab := ((zch 123 a.l 0 p.rest).1, ⟨(zch 123 a.l 0 p.rest).2⟩)
def zvi (a : Sl Str) (p : zab) : Int × zab := ((zch 32 a.l 0 p.rest).1, ⟨(zch 32 a.l 0 p.rest).2⟩)
def zq7 (p : zab) (x : zan) : Option (zab × Int) := some (⟨(zhO p.rest).2⟩, if (zhO p.rest).1 = 0 then x.kind else (zhO p.rest).1)
def zc0 (p : zab) (d : Int) : Sl zal × Bool × zab := ((zlr (d + 1).toNat p.rest).1, (zlr (d + 1).toNat p.rest).2.1, ⟨(zlr (d + 1).toNat p.rest).2.2⟩)
def zmZ (p : zab) (d : Int) : zal × Bool × zab := ((ztN (zlr d.toNat) p.rest).1, (ztN (zlr d.toNat) p.rest).2.1, ⟨(ztN (zlr d.toNat) p.rest).2.2⟩)
def zgs (p : zab) (d : Int) : zan × Bool × zab := ((zqg (zlr d.toNat) p.rest).1, (zqg (zlr d.toNat) p.rest).2.1, ⟨(zqg (zlr d.toNat) p.rest).2.2⟩)
def zdo (p : zab) (_x : zan) (d : Int) : Bool × zab × zan := ((zr5 (zlr d.toNat) p.rest).2.1, ⟨(zr5 (zlr d.toNat) p.rest).2.2⟩, (zr5 (zlr d.toNat) p.rest).1)
noncomputable def zdS (kk : Nat) (a : Str) (u1 : zab) : Option (Bool × zab) :=
 bnd (okP (a.length + [123].length ≤ zdd)) fun _ =>
 some (((zaQ u1 (a ++ [123])).1), (zaQ u1 (a ++ [123])).2)
noncomputable def zaF (c1 : Sl Str) (c2 : Int) (kk : Nat) : Nat → Int → zab → Option (Out (Int × zab) (Int × zab))
 | 0, _, _ => none
 | k + 1, s3, s4 =>
   sel (
    bnd (ix c1.l s3) fun (y5 : Str) =>
    bnd (zdS kk y5 s4) fun (r6 : Bool × zab) =>
    sel (
     some (.ret (s3, r6.2))) (
     zaF c1 c2 kk k (IntKind.wrap .i64 (s3 + 1)) r6.2) (r6.1)) (
    some (.done (s3, s4))) (decide (s3 < c2))
noncomputable def zbm (kk : Nat) (a : (Sl Str)) (u1 : zab) : Option (Int × zab) :=
 zhy (zaF a (a.l.length : Int) kk kk 0 u1) (fun r => some r) fun (q7 : Int × zab) =>
  some ((-1), q7.2)
noncomputable def zdR (kk : Nat) (a : Str) (u1 : zab) : Option (Bool × zab) :=
 bnd (okP (a.length + [32].length ≤ zdd)) fun _ =>
 some (((zaQ u1 (a ++ [32])).1), (zaQ u1 (a ++ [32])).2)
noncomputable def zaE (c1 : Sl Str) (c2 : Int) (kk : Nat) : Nat → Int → zab → Option (Out (Int × zab) (Int × zab))
 | 0, _, _ => none
 | k + 1, s3, s4 =>
   sel (
    bnd (ix c1.l s3) fun (y5 : Str) =>
    bnd (zdR kk y5 s4) fun (r6 : Bool × zab) =>
    sel (
     some (.ret (s3, r6.2))) (
     zaE c1 c2 kk k (IntKind.wrap .i64 (s3 + 1)) r6.2) (r6.1)) (
    some (.done (s3, s4))) (decide (s3 < c2))
noncomputable def zbl (kk : Nat) (a : (Sl Str)) (u1 : zab) : Option (Int × zab) :=
 zhy (zaE a (a.l.length : Int) kk kk 0 u1) (fun r => some r) fun (q7 : Int × zab) =>
  some ((-1), q7.2)
end Go.Ev
set_option linter.unusedVariables false
namespace Go.Ev
@[go_sem] theorem zal.setCoeff_self (x : zal) : x.setCoeff x.coeff = x := by cases x; rfl
@[go_sem] theorem zan.setKind_self (x : zan) : x.setKind x.kind = x := by cases x; rfl
attribute [go_sem] Sl.out_l Sl.of_l Sl.nil_l
@[go_sem] def zOv {α : Type} (l : List α) : Bool := open Classical in if l = [] then true else false
def zwr {α : Type} (m : Mem) (i g sz : Nat) (cells : D → List D) (Ts : List Nat) (esz : Nat) (c : α → List D) (l : List α) : Prop :=
 ∃ d, m (.arg i) = some (.rows g false (zOv l) sz [cells d]) ∧ zuH d m Ts esz c l
theorem zvp {body : (Ex → St → Option Res) → St → Option Res} {k : Ex → St → Option Res} {n : Nat} {s : St} {t : Tok (body, k, n)} {R : Option Res → Prop} (h : R (zcj body k n s)) : R (zKb body k n t s) := h
noncomputable def zbL (c1 : Int) (sz : Nat) (kk : Nat) : Nat → List zal → zab → Option (Out ((Sl zal) × Bool × zab) (List zal × zab))
 | 0, _, _ => none
 | k + 1, s2, s3 =>
   bnd (okP ((s3.rest.length < lim ∧ 0 ≤ c1 ∧ c1 ≤ 8 ∧ 4 * (c1 + 1).toNat + 2 < sz))) fun _ =>
   sel (
    some (.ret (Sl.nil, false, (zmZ s3 c1).2.2))) (
    bnd (okP ((s2.length + 1) * 32 ≤ zdd)) fun _ =>
    sel (
     some (.ret ((Sl.of (s2 ++ [(zmZ s3 c1).1])), true, (zaQ ((zmZ s3 c1).2.2) [32, 43, 32]).2))) (
     zbL c1 sz kk k (s2 ++ [(zmZ s3 c1).1]) ((zaQ ((zmZ s3 c1).2.2) [32, 43, 32]).2)) (!((zaQ ((zmZ s3 c1).2.2) [32, 43, 32]).1))) (!((zmZ s3 c1).2.1))
noncomputable def zc6 (kk : Nat) (sz : Nat) (a : zab) (b : Int) : Option ((Sl zal) × Bool × zab) :=
 sel (
  some (Sl.nil, false, a)) (
  sel (
   some (Sl.nil, true, (zaQ a [48]).2)) (
   zhy (zbL b sz kk kk [] ((zaQ a [48]).2)) (fun r => some r) fun (q6 : List zal × zab) =>
    none) ((zaQ a [48]).1)) (decide (b < 0))
noncomputable def zbY (c14 : Int) (c16 : zal) (sz : Nat) (kk : Nat) : Nat → zab → zal → List zai → Option (Out (zal × Bool × zab) (zab × zal × List zai))
 | 0, _, _, _ => none
 | k + 1, s15, s17, s18 =>
   bnd (okP ((s15.rest.length < lim ∧ 0 ≤ c14 ∧ c14 ≤ 8 ∧ 4 * (c14 + 1).toNat + 1 < sz))) fun _ =>
   sel (
    sel (
     bnd (okP (((zaQ ((zgs s15 c14).2.2) [94]).2).rest.length < lim)) fun _ =>
     sel (
      some (.ret ((s17.setFactors (Sl.out s18)), false, (zk1 ((zaQ ((zgs s15 c14).2.2) [94]).2)).2.2))) (
      bnd (okP ((s18.length + 1) * 128 ≤ zdd)) fun _ =>
      sel (
       some (.ret (((s17.setFactors (Sl.out s18)).setFactors (Sl.of (s18 ++ [(((zai.zero.setAtom ((zgs s15 c14).1)).setExp 1).setExp ((zk1 ((zaQ ((zgs s15 c14).2.2) [94]).2)).1))]))), true, (zaQ ((zk1 ((zaQ ((zgs s15 c14).2.2) [94]).2)).2.2) [42]).2))) (
       zbY c14 c16 sz kk k ((zaQ ((zk1 ((zaQ ((zgs s15 c14).2.2) [94]).2)).2.2) [42]).2) s17 (s18 ++ [(((zai.zero.setAtom ((zgs s15 c14).1)).setExp 1).setExp ((zk1 ((zaQ ((zgs s15 c14).2.2) [94]).2)).1))])) (!((zaQ ((zk1 ((zaQ ((zgs s15 c14).2.2) [94]).2)).2.2) [42]).1))) (!((zk1 ((zaQ ((zgs s15 c14).2.2) [94]).2)).2.1))) (
     bnd (okP ((s18.length + 1) * 128 ≤ zdd)) fun _ =>
     sel (
      some (.ret (((s17.setFactors (Sl.out s18)).setFactors (Sl.of (s18 ++ [((zai.zero.setAtom ((zgs s15 c14).1)).setExp 1)]))), true, (zaQ ((zaQ ((zgs s15 c14).2.2) [94]).2) [42]).2))) (
      zbY c14 c16 sz kk k ((zaQ ((zaQ ((zgs s15 c14).2.2) [94]).2) [42]).2) s17 (s18 ++ [((zai.zero.setAtom ((zgs s15 c14).1)).setExp 1)])) (!((zaQ ((zaQ ((zgs s15 c14).2.2) [94]).2) [42]).1))) ((zaQ ((zgs s15 c14).2.2) [94]).1)) (
    some (.ret ((s17.setFactors (Sl.out s18)), false, (zgs s15 c14).2.2))) ((zgs s15 c14).2.1)
noncomputable def zdO (c7 : Int) (c8 : Bool) (c9 : zab) (c10 : zal) (c11 : zal) (sz : Nat) (kk : Nat) : Option (Out (zal × Bool × zab) (zab × Int)) :=
 sel (
  bnd (okP (c9.rest.length < lim)) fun _ =>
  sel (
   sel (
    some (.ret ((c11.setCoeff ((zk1 c9).1)), ((zk1 c9).2.1), (zaQ ((zk1 c9).2.2) [42]).2))) (
    some (.done ((zaQ ((zk1 c9).2.2) [42]).2, (zk1 c9).1))) (!((zaQ ((zk1 c9).2.2) [42]).1))) (
   some (.ret ((c11.setCoeff ((zk1 c9).1)), ((zk1 c9).2.1), (zk1 c9).2.2))) (!(!((zk1 c9).2.1)))) (
  some (.done (c9, c11.coeff))) (c8)
noncomputable def zcY (c1 : Int) (c2 : zab) (c3 : zal) (c4 : zal) (sz : Nat) (kk : Nat) : Option (Bool) :=
 sel (
  bnd (c2.rest[0]?) fun (y5 : UInt8) =>
  some ((decide (48 ≤ (y5.toNat : Int))) && (decide ((y5.toNat : Int) ≤ 57)))) (
  some false) (!(c2.rest == []))
noncomputable def zeQ (kk : Nat) (sz : Nat) (a : zab) (b : Int) : Option (zal × Bool × zab) :=
 bnd (zcY b a zal.zero (zal.zero.setCoeff 1) sz kk) fun (q6 : Bool) =>
 zhy (zdO b (q6) a zal.zero (zal.zero.setCoeff 1) sz kk) (fun r => some r) fun (q13 : zab × Int) =>
  zhy (zbY b zal.zero sz kk kk q13.1 ((zal.zero.setCoeff 1).setCoeff q13.2) []) (fun r => some r) fun (q23 : zab × zal × List zai) =>
   none
noncomputable def zdP (c1 : Int) (c2 : zab) (c3 : zan) (c4 : zan) (sz : Nat) (kk : Nat) : Option (zab × Int) := zq7 c2 c4
noncomputable def zeR (kk : Nat) (sz : Nat) (a : zab) (b : Int) : Option (zan × Bool × zab) :=
 bnd (zdP b a zan.zero zan.zero sz kk) fun (q5 : zab × Int) =>
 sel (
  bnd (okP (q5.1.rest.length < lim ∧ [116, 46, 48, 49, 50, 51, 52, 53, 54, 55, 56, 57].length < lim ∧ zH9 [116, 46, 48, 49, 50, 51, 52, 53, 54, 55, 56, 57] = true)) fun _ =>
  bnd (okP (((zl0 q5.1 [116, 46, 48, 49, 50, 51, 52, 53, 54, 55, 56, 57]).1).length < lim)) fun _ =>
  some (((zan.zero.setKind q5.2).setRow ((zic ((zl0 q5.1 [116, 46, 48, 49, 50, 51, 52, 53, 54, 55, 56, 57]).1)).1)), (((zic ((zl0 q5.1 [116, 46, 48, 49, 50, 51, 52, 53, 54, 55, 56, 57]).1)).2) == 0), (zl0 q5.1 [116, 46, 48, 49, 50, 51, 52, 53, 54, 55, 56, 57]).2)) (
  sel (
   bnd (okP ((q5.1.rest.length < lim ∧ (zan.zero.setKind q5.2) = zan.zero.setKind 4 ∧ 0 ≤ b ∧ b ≤ 8 ∧ 4 * (b + 1).toNat < sz))) fun _ =>
   sel (
    some (((zdo q5.1 (zan.zero.setKind q5.2) b).2.2.setItems (Sl.out (((zdo q5.1 (zan.zero.setKind q5.2) b).2.2).items.l))), ((zaQ ((zdo q5.1 (zan.zero.setKind q5.2) b).2.1) [93]).1), (zaQ ((zdo q5.1 (zan.zero.setKind q5.2) b).2.1) [93]).2)) (
    some (((zdo q5.1 (zan.zero.setKind q5.2) b).2.2.setItems (Sl.out (((zdo q5.1 (zan.zero.setKind q5.2) b).2.2).items.l))), false, (zdo q5.1 (zan.zero.setKind q5.2) b).2.1)) ((zdo q5.1 (zan.zero.setKind q5.2) b).1)) (
   bnd (okP ((q5.1.rest.length < lim ∧ -1 ≤ (IntKind.wrap .i64 (b - 1)) ∧ (IntKind.wrap .i64 (b - 1)) ≤ 8 ∧ 4 * ((IntKind.wrap .i64 (b - 1)) + 1).toNat + 3 < sz))) fun _ =>
   sel (
    sel (
     bnd (okP ((((zaQ ((zc0 q5.1 (IntKind.wrap .i64 (b - 1))).2.2) [44, 32]).2).rest.length < lim ∧ -1 ≤ (IntKind.wrap .i64 (b - 1)) ∧ (IntKind.wrap .i64 (b - 1)) ≤ 8 ∧ 4 * ((IntKind.wrap .i64 (b - 1)) + 1).toNat + 3 < sz))) fun _ =>
     sel (
      some ((((zan.zero.setKind q5.2).setArgs (Sl.of [(zc0 q5.1 (IntKind.wrap .i64 (b - 1))).1, (zc0 ((zaQ ((zc0 q5.1 (IntKind.wrap .i64 (b - 1))).2.2) [44, 32]).2) (IntKind.wrap .i64 (b - 1))).1])).setArgs (Sl.of [(zc0 q5.1 (IntKind.wrap .i64 (b - 1))).1, (zc0 ((zaQ ((zc0 q5.1 (IntKind.wrap .i64 (b - 1))).2.2) [44, 32]).2) (IntKind.wrap .i64 (b - 1))).1])), ((zaQ ((zc0 ((zaQ ((zc0 q5.1 (IntKind.wrap .i64 (b - 1))).2.2) [44, 32]).2) (IntKind.wrap .i64 (b - 1))).2.2) [93]).1), (zaQ ((zc0 ((zaQ ((zc0 q5.1 (IntKind.wrap .i64 (b - 1))).2.2) [44, 32]).2) (IntKind.wrap .i64 (b - 1))).2.2) [93]).2)) (
      some ((((zan.zero.setKind q5.2).setArgs (Sl.of [(zc0 q5.1 (IntKind.wrap .i64 (b - 1))).1, (zc0 ((zaQ ((zc0 q5.1 (IntKind.wrap .i64 (b - 1))).2.2) [44, 32]).2) (IntKind.wrap .i64 (b - 1))).1])).setArgs (Sl.of [(zc0 q5.1 (IntKind.wrap .i64 (b - 1))).1, (zc0 ((zaQ ((zc0 q5.1 (IntKind.wrap .i64 (b - 1))).2.2) [44, 32]).2) (IntKind.wrap .i64 (b - 1))).1])), false, (zc0 ((zaQ ((zc0 q5.1 (IntKind.wrap .i64 (b - 1))).2.2) [44, 32]).2) (IntKind.wrap .i64 (b - 1))).2.2)) ((zc0 ((zaQ ((zc0 q5.1 (IntKind.wrap .i64 (b - 1))).2.2) [44, 32]).2) (IntKind.wrap .i64 (b - 1))).2.1)) (
     some (((zan.zero.setKind q5.2).setArgs (Sl.of [(zc0 q5.1 (IntKind.wrap .i64 (b - 1))).1])), false, (zaQ ((zc0 q5.1 (IntKind.wrap .i64 (b - 1))).2.2) [44, 32]).2)) ((zaQ ((zc0 q5.1 (IntKind.wrap .i64 (b - 1))).2.2) [44, 32]).1)) (
    sel (
     some (((zan.zero.setKind q5.2).setArgs (Sl.of [(zc0 q5.1 (IntKind.wrap .i64 (b - 1))).1])), ((zaQ ((zc0 q5.1 (IntKind.wrap .i64 (b - 1))).2.2) [93]).1), (zaQ ((zc0 q5.1 (IntKind.wrap .i64 (b - 1))).2.2) [93]).2)) (
     some (((zan.zero.setKind q5.2).setArgs (Sl.of [(zc0 q5.1 (IntKind.wrap .i64 (b - 1))).1])), false, (zc0 q5.1 (IntKind.wrap .i64 (b - 1))).2.2)) ((zc0 q5.1 (IntKind.wrap .i64 (b - 1))).2.1)) (((zc0 q5.1 (IntKind.wrap .i64 (b - 1))).2.1) && (q5.2 == 1))) (q5.2 == 4)) (q5.2 == 0)
noncomputable def zbX (c2 : Int) (sz : Nat) (kk : Nat) : Nat → zab → zan → List zad → Option (Out (Bool × zab × zan) (zab × zan × List zad))
 | 0, _, _, _ => none
 | k + 1, s3, s4, s5 =>
   sel (
    bnd (okP (s3.rest.length < lim)) fun _ =>
    sel (
     sel (
      some (.ret (false, (zaQ ((zkF s3).2.2) [58, 32]).2, (s4.setItems (Sl.out s5))))) (
      bnd (okP ((((zaQ ((zkF s3).2.2) [58, 32]).2).rest.length < lim ∧ -1 ≤ (IntKind.wrap .i64 (c2 - 1)) ∧ (IntKind.wrap .i64 (c2 - 1)) ≤ 8 ∧ 4 * ((IntKind.wrap .i64 (c2 - 1)) + 1).toNat + 3 < sz))) fun _ =>
      sel (
       some (.ret (false, (zc0 ((zaQ ((zkF s3).2.2) [58, 32]).2) (IntKind.wrap .i64 (c2 - 1))).2.2, (s4.setItems (Sl.out s5))))) (
       bnd (okP ((s5.length + 1) * 56 ≤ zdd)) fun _ =>
       sel (
        some (.done ((zaQ ((zc0 ((zaQ ((zkF s3).2.2) [58, 32]).2) (IntKind.wrap .i64 (c2 - 1))).2.2) [59, 32]).2, s4, (s5 ++ [((zad.zero.setValue ((zkF s3).1)).setAnn ((zc0 ((zaQ ((zkF s3).2.2) [58, 32]).2) (IntKind.wrap .i64 (c2 - 1))).1))])))) (
        zbX c2 sz kk k ((zaQ ((zc0 ((zaQ ((zkF s3).2.2) [58, 32]).2) (IntKind.wrap .i64 (c2 - 1))).2.2) [59, 32]).2) s4 (s5 ++ [((zad.zero.setValue ((zkF s3).1)).setAnn ((zc0 ((zaQ ((zkF s3).2.2) [58, 32]).2) (IntKind.wrap .i64 (c2 - 1))).1))])) (!((zaQ ((zc0 ((zaQ ((zkF s3).2.2) [58, 32]).2) (IntKind.wrap .i64 (c2 - 1))).2.2) [59, 32]).1))) (!((zc0 ((zaQ ((zkF s3).2.2) [58, 32]).2) (IntKind.wrap .i64 (c2 - 1))).2.1))) (!((zaQ ((zkF s3).2.2) [58, 32]).1))) (
     some (.ret (false, (zkF s3).2.2, (s4.setItems (Sl.out s5))))) (!(!((zkF s3).2.1)))) (
    some (.done (s3, s4, s5))) (decide (0 ≤ s4.func))
noncomputable def zdt (kk : Nat) (sz : Nat) (a : zab) (b : zan) (c : Int) : Option (Bool × zab × zan) :=
 bnd (okP (zv3 (zkw))) fun _ =>
 zhy (zbX c sz kk kk ((zE0 (zkw) a).2) (b.setFunc ((zE0 (zkw) a).1)) []) (fun r => some r) fun (q9 : zab × zan × List zad) =>
  sel (
   sel (
    some (false, (zaQ q9.1 [125, 32]).2, (q9.2.1.setItems (Sl.out q9.2.2)))) (
    bnd (okP (zv3 (zgC))) fun _ =>
    bnd (okP (((zvi (zgC) ((zaQ q9.1 [125, 32]).2)).2).rest.length < lim)) fun _ =>
    some (((decide (0 ≤ ((zvi (zgC) ((zaQ q9.1 [125, 32]).2)).1))) && ((zkF ((zvi (zgC) ((zaQ q9.1 [125, 32]).2)).2)).2.1)), (zkF ((zvi (zgC) ((zaQ q9.1 [125, 32]).2)).2)).2.2, (((q9.2.1.setItems (Sl.out q9.2.2)).setOp (IntKind.wrap .i64 (5 + ((zvi (zgC) ((zaQ q9.1 [125, 32]).2)).1)))).setBound ((zkF ((zvi (zgC) ((zaQ q9.1 [125, 32]).2)).2)).1)))) (!((zaQ q9.1 [125, 32]).1))) (
   some (false, q9.1, (q9.2.1.setItems (Sl.out q9.2.2)))) (!(decide (q9.2.1.func < 0)))
end Go.Ev
set_option linter.unusedVariables false
namespace Go.Ev
def zl8 (a : Sl zal) : Str := if zbZ a then zcp a else []
def zKB : Bool := true
def zIM (_a : Sl zal) (_b : Str) : Bool := true
noncomputable def zhD (kk : Nat) (a : Str) : Option ((Sl zal) × Int) :=
 bnd (okP (((zab.zero.setRest a).rest.length < lim ∧ -1 ≤ (8 : Int) ∧ (8 : Int) ≤ 8 ∧ 4 * ((8 : Int) + 1).toNat + 3 < big - 1))) fun _ =>
 sel (
  bnd (okP (20 * zak ((zc0 (zab.zero.setRest a) 8).1).l + 1 < big - 1)) fun _ =>
  sel (
   bnd (okP ((zdl ((zc0 (zab.zero.setRest a) 8).1).l = true ∧ zbv ((zc0 (zab.zero.setRest a) 8).1).l ∧ zak ((zc0 (zab.zero.setRest a) 8).1).l < lim ∧ 4 * zak ((zc0 (zab.zero.setRest a) 8).1).l + 1 < big - 1))) fun _ =>
   sel (
    some (Sl.nil, 3)) (
    some ((zc0 (zab.zero.setRest a) 8).1, 0)) (!((zcp ((zc0 (zab.zero.setRest a) 8).1)) == a))) (
   some (Sl.nil, 3)) (!(!((zbZ ((zc0 (zab.zero.setRest a) 8).1)))))) (
  some (Sl.nil, 3)) (!((!((zc0 (zab.zero.setRest a) 8).2.1)) || (!((((zc0 (zab.zero.setRest a) 8).2.2).rest) == []))))
noncomputable def zhh (kk : Nat) (a : (Sl zal)) : Option (Str) :=
 bnd (okP (20 * zak a.l + 1 < big - 1)) fun _ =>
 sel (
  some []) (
  bnd (okP ((zdl a.l = true ∧ zbv a.l ∧ zak a.l < lim ∧ 4 * zak a.l + 1 < big - 1))) fun _ =>
  some (zcp a)) (!((zbZ a)))
noncomputable def znk (kk : Nat) (a : (Sl zal)) : Option (Str) :=
 bnd (okP (zak a.l < big - 1)) fun _ =>
 sel (
  some []) (
  bnd (okP ((zdl a.l = true ∧ zbv a.l ∧ zak a.l < lim ∧ 4 * zak a.l + 1 < big - 1))) fun _ =>
  some (zcp a)) (!((zbZ a)))
noncomputable def zds (c5 : Sl zal) (c6 : Str) (c7 : Str) (c8 : Bool) (kk : Nat) : Option (Out (Bool) (Unit)) :=
 sel (
  bnd (okP (5 * c7.length < lim)) fun _ =>
  sel (
   bnd (okP (8 * (zak c5.l + zak ((zcu c7).1).l) + 7 < big - 1)) fun _ =>
   sel (
    some (.ret false)) (
    some (.done ())) (!((zn7 c5 ((zcu c7).1))))) (
   some (.ret false)) (!(((zcu c7).2) != 0))) (
  some (.done ())) (c8)
noncomputable def zfR (kk : Nat) (a : (Sl zal)) (b : Str) : Option (Bool) :=
 sel (
  some false) (
  bnd (okP (0 ≤ (100 : Int) ∧ (100 : Int) ≤ 4294967296 ∧ zcv (Sl.of [a]).l < lim)) fun _ =>
  sel (
   some true) (
   bnd (okP (zbv a.l ∧ 20 * zak a.l + 1 < lim)) fun _ =>
   bnd (okP (zbv a.l ∧ 20 * zak a.l + 1 < lim)) fun _ =>
   sel (
    some false) (
    bnd (okP (20 * zak a.l + 1 < big - 1)) fun _ =>
    zhy (zds a b (zl8 a) ((zbZ a)) kk) (fun r => some r) fun (q11 : Unit) =>
     bnd (okP (5 * b.length < lim)) fun _ =>
     sel (
      some ((((zcu b).2) == 3) && ((((zcu b).1).l.length : Int) == 0))) (
      bnd (okP (20 * zak ((zcu b).1).l + 1 < big - 1)) fun _ =>
      sel (
       bnd (okP (zbv ((zcu b).1).l ∧ 20 * zak ((zcu b).1).l + 1 < lim)) fun _ =>
       some ((zl8 ((zcu b).1)) == b)) (
       some false) ((zbZ ((zcu b).1)))) (((zcu b).2) != 0)) (!((zl8 a) == (zl8 a)))) ((!((zRK 100 (Sl.of [a])))) || (decide (400 < (b.length : Int))))) (!((zKB)))
end Go.Ev
