/- HashjoinBucket: for all rows, key columns, numbers of parts and levels that hold together at most 1048576 values and letters, the law returns true. Condition: that bound (the Upto form). -/
import Derived.Lib.Replace
import Derived.Lib.IndexMore
import Derived.Lib.SlTrimSet
import Derived.Test.YtklniminnejicaaGreatDoorT7
set_option linter.all false
namespace Go.Ev
def zte (te : TypeId) (b : Bool) : D := if b then .nili else .iface te .unk
theorem zmP (te : TypeId) (b : Bool) : zip (zte te b) = true := by cases b <;> rfl
@[go_sem] theorem zx8 (te : TypeId) (b : Bool) : zjB true (zte te b) .nili .iface = some b := by cases b <;> rfl
@[go_sem] theorem zya (P : Program) (op : BinOp) (t : TypeId) (c : Bool) (te : TypeId) (b : Bool) : zpJ P op t c (zte te b) .nili = zpD P t c (zte te b) .nili op := by cases b <;> rfl
@[go_sem] theorem zyQ (P : Program) (t : TypeId) (c : Bool) (te : TypeId) (b : Bool) : deq P t c (zte te b) .nili = bnd (kOf P t) (zjB c (zte te b) .nili) := by cases b <;> rfl
def lim : Nat := 4294967281
def zuC (s old new : Str) : Prop := s.length < lim ∧ 1 ≤ old.length ∧ s.length + Lib.count s old * new.length ≤ zhO
instance (s old new : Str) : Decidable (zuC s old new) := inferInstanceAs (Decidable (_ ∧ _))
def zyy (s old new : Str) : Str := Lib.replaceAll s old new
def zfb : List D → Option D
 | [.str s, .str old, .str new] => if zuC s old new then some (.str (zyy s old new)) else none
 | _ => none
def zA2 (s sub : Str) : Bool := Lib.contains s sub
def zhf : List D → Option D
 | [.str s, .str sub] => if s.length < lim then some (.bool (zA2 s sub)) else none
 | _ => none
def zyZ (s sep : Str) : Str × Str × Bool := Lib.cut s sep
def zxZ : List D → Option D
 | [.str s, .str sep] => if s.length < lim then some (.tup [.str (zyZ s sep).1, .str (zyZ s sep).2.1, .bool (zyZ s sep).2.2]) else none
 | _ => none
def zuB (s set : Str) : Prop := 0 < s.length ∧ s.length < lim ∧ 2 ≤ set.length ∧ set.length < lim ∧ (set.all fun b => decide (b.toNat < 128)) = true
instance (s set : Str) : Decidable (zuB s set) := inferInstanceAs (Decidable (_ ∧ _))
def trimS (s set : Str) : Str := Lib.trimS s set
def ztY : List D → Option D
 | [.str s, .str set] => if zuB s set then some (.str (trimS s set)) else none
 | _ => none
def zof (s : Str) (_ _ : Int) : Int × Bool := zmH s
def zr6 (s : Str) (b z : Int) : Prop := s.length < lim ∧ b = 10 ∧ z = 64
instance (s : Str) (b z : Int) : Decidable (zr6 s b z) := inferInstanceAs (Decidable (_ ∧ _))
def zhe (te : TypeId) : List D → Option D
 | [.str s, .int .i64 b, .int .i64 z] => if zr6 s b z then some (.tup [.int .i64 (zof s b z).1, zte te (zof s b z).2]) else none
 | _ => none
def zt1 (te : TypeId) : List D → Option D
 | [.str s] => if s.length < lim then some (.tup [.int .i64 (zmH s).1, zte te (zmH s).2]) else none
 | _ => none
def zim : List D → Option D
 | [] => some (.bool true)
 | _ => none
theorem zkH : zim [] = some (.bool true) := rfl
end Go.Ev
set_option linter.unusedVariables false
namespace Go.Ev
end Go.Ev
set_option linter.unusedVariables false
namespace Go.Ev
end Go.Ev
namespace Go.Ev
end Go.Ev
namespace Go.Ev
theorem okr {n : Nat} (h : n ≤ 140737488355328) : okP (n ≤ zhO) = some () := zb5 h
theorem zcV : lim = 4294967281 := rfl
theorem out_l {α : Type} (l : List α) : (Sl.out l).l = l := Sl.out_l l
end Go.Ev
namespace Go.Ev
mutual
def zfs : Int → Int → List zaE → Int → Int
 | _, _, [], n => n
 | L, d, x :: xs, n => if n ≤ L then zfs L d xs (zk4 L d x n) else n
def zk4 : Int → Int → zaE → Int → Int
 | L, d, .mk _ ⟨_, fs⟩, n => zc2 L d fs (n + 1 + fs.length)
def zc2 : Int → Int → List zaf → Int → Int
 | _, _, [], n => n
 | L, d, x :: xs, n => if n ≤ L then zc2 L d xs (zeX L d x n) else n
def zeX : Int → Int → zaf → Int → Int
 | L, d, .mk a _, n => znT L d a n
def znT : Int → Int → zah → Int → Int
 | L, d, .mk _ _ ⟨_, as⟩ _ ⟨_, is⟩ _ b, n => zfB L d is (zgI L d as (n + is.length + as.length + b.text.length))
def zgI : Int → Int → List (Sl zaE) → Int → Int
 | _, _, [], n => n
 | L, d, ⟨_, x⟩ :: xs, n => if n ≤ L then zgI L d xs (n + (if d - 1 = 0 then L - n + 1 else zfs (L - n) (d - 1) x 0)) else n
def zfB : Int → Int → List zac → Int → Int
 | _, _, [], n => n
 | L, d, x :: xs, n => if n ≤ L then zfB L d xs (zk5 L d x n) else n
def zk5 : Int → Int → zac → Int → Int
 | L, d, .mk v ⟨_, l⟩, n => n + v.text.length + (if d - 1 = 0 then L - n + 1 else zfs (L - n) (d - 1) l 0)
end
def zk7 (a : Sl zaE) (L d : Int) : Int := if d = 0 then L + 1 else zfs L d a.l 0
mutual
theorem zg3 : ∀ (l : List zaE) (L d n : Int), 0 ≤ L → n ≤ zfs L d l n ∧ zfs L d l n ≤ max n (L + 1 + zat l)
 | [], L, d, n, h => by simp only [zfs]; omega
 | x :: xs, L, d, n, h => by
   simp only [zfs, zat]
   by_cases c : n ≤ L
   · rw [if_pos c]
     have h1 := zo0 x L d n h c
     have h2 := zg3 xs L d (zk4 L d x n) h
     omega
   · rw [if_neg c]; omega
theorem zo0 : ∀ (x : zaE) (L d n : Int), 0 ≤ L → n ≤ L → n ≤ zk4 L d x n ∧ zk4 L d x n ≤ L + 1 + zfD x
 | .mk c ⟨f, fs⟩, L, d, n, h, k => by
   have h1 := zi4 fs L d (n + 1 + fs.length) h
   have h2 := zdM fs
   simp only [zk4, zfD]; omega
theorem zi4 : ∀ (l : List zaf) (L d n : Int), 0 ≤ L → n ≤ zc2 L d l n ∧ zc2 L d l n ≤ max n (L + 1 + zaW l)
 | [], L, d, n, h => by simp only [zc2]; omega
 | x :: xs, L, d, n, h => by
   simp only [zc2, zaW]
   by_cases c : n ≤ L
   · rw [if_pos c]
     have h1 := zkx x L d n h c
     have h2 := zi4 xs L d (zeX L d x n) h
     omega
   · rw [if_neg c]; omega
theorem zkx : ∀ (x : zaf) (L d n : Int), 0 ≤ L → n ≤ L → n ≤ zeX L d x n ∧ zeX L d x n ≤ L + 1 + zdN x
 | .mk a e, L, d, n, h, k => by
   have h1 := ztt a L d n h k
   simp only [zeX, zdN]; omega
theorem ztt : ∀ (x : zah) (L d n : Int), 0 ≤ L → n ≤ L → n ≤ znT L d x n ∧ znT L d x n ≤ L + 1 + zd4 x
 | .mk k r ⟨f1, as⟩ f ⟨f2, is⟩ o b, L, d, n, h, kk => by
   have h1 := ziO as L d (n + is.length + as.length + b.text.length) h
   have h2 := zmp is L d (zgI L d as (n + is.length + as.length + b.text.length)) h
   have h3 := zd0 as
   have h4 := zeY is
   simp only [znT, zd4]; omega
theorem ziO : ∀ (l : List (Sl zaE)) (L d n : Int), 0 ≤ L → n ≤ zgI L d l n ∧ zgI L d l n ≤ max n (L + 1 + zcE l)
 | [], L, d, n, h => by simp only [zgI]; omega
 | ⟨f, x⟩ :: xs, L, d, n, h => by
   simp only [zgI, zcE]
   by_cases c : n ≤ L
   · rw [if_pos c]
     by_cases e : d - 1 = 0
     · rw [if_pos e]
       have h2 := ziO xs L d (n + (L - n + 1)) h
       omega
     · rw [if_neg e]
       have h1 := zg3 x (L - n) (d - 1) 0 (by omega)
       have h2 := ziO xs L d (n + zfs (L - n) (d - 1) x 0) h
       omega
   · rw [if_neg c]; omega
theorem zmp : ∀ (l : List zac) (L d n : Int), 0 ≤ L → n ≤ zfB L d l n ∧ zfB L d l n ≤ max n (L + 1 + zbR l)
 | [], L, d, n, h => by simp only [zfB]; omega
 | x :: xs, L, d, n, h => by
   simp only [zfB, zbR]
   by_cases c : n ≤ L
   · rw [if_pos c]
     have h1 := zo1 x L d n h c
     have h2 := zmp xs L d (zk5 L d x n) h
     omega
   · rw [if_neg c]; omega
theorem zo1 : ∀ (x : zac) (L d n : Int), 0 ≤ L → n ≤ L → n ≤ zk5 L d x n ∧ zk5 L d x n ≤ L + 1 + zg6 x
 | .mk v ⟨f, l⟩, L, d, n, h, c => by
   simp only [zk5, zg6]
   by_cases e : d - 1 = 0
   · rw [if_pos e]; omega
   · rw [if_neg e]
     have h1 := zg3 l (L - n) (d - 1) 0 (by omega)
     omega
end
theorem ztq (L d : Int) (x : zaE) (n : Int) : zk4 L d x n = zc2 L d x.factors.l (n + 1 + x.factors.l.length) := by rcases x with ⟨c, ⟨f, l⟩⟩; simp only [zk4, zaE.factors]
theorem zp5 (L d : Int) (x : zaf) (n : Int) : zeX L d x n = znT L d x.atom n := by cases x; simp only [zeX, zaf.atom]
theorem zts (L d : Int) (x : zah) (n : Int) : znT L d x n = zfB L d x.items.l (zgI L d x.args.l (n + x.items.l.length + x.args.l.length + x.bound.text.length)) := by
 rcases x with ⟨k, r, ⟨f, a⟩, fn, ⟨g, i⟩, o, b⟩; simp only [znT, zah.args, zah.items, zah.bound]
theorem ztr (L d : Int) (x : zac) (n : Int) : zk5 L d x n = n + x.value.text.length + zk7 x.ann (L - n) (d - 1) := by
 rcases x with ⟨v, ⟨f, l⟩⟩; simp only [zk5, zac.value, zac.ann, zk7]; first | done | rfl
theorem zp7 (L d : Int) (x : Sl zaE) (xs : List (Sl zaE)) (n : Int) : zgI L d (x :: xs) n = if n ≤ L then zgI L d xs (n + zk7 x (L - n) (d - 1)) else n := by
 cases x; simp only [zgI, zk7]; first | done | rfl
def zgM {α : Type} (L : Int) (f : α → Int → Int) : List α → Int → Int
 | [], n => n
 | x :: xs, n => if n ≤ L then zgM L f xs (f x n) else n
theorem znR (L d : Int) (l : List zaE) (n : Int) : zfs L d l n = zgM L (zk4 L d) l n := by
 induction l generalizing n with
 | nil => simp only [zfs, zgM]
 | cons x l ih => simp only [zfs, zgM, ih]
theorem zk6 (L d : Int) (l : List zaf) (n : Int) : zc2 L d l n = zgM L (zeX L d) l n := by
 induction l generalizing n with
 | nil => simp only [zc2, zgM]
 | cons x l ih => simp only [zc2, zgM, ih]
theorem znS (L d : Int) (l : List zac) (n : Int) : zfB L d l n = zgM L (zk5 L d) l n := by
 induction l generalizing n with
 | nil => simp only [zfB, zgM]
 | cons x l ih => simp only [zfB, zgM, ih]
theorem zp6 (L d : Int) (l : List (Sl zaE)) (n : Int) : zgI L d l n = zgM L (fun x n => n + zk7 x (L - n) (d - 1)) l n := by
 induction l generalizing n with
 | nil => simp only [zgI, zgM]
 | cons x l ih => rw [zp7]; simp only [zgM, ih]
theorem zg8 {α R : Type} {M : Nat → Int → Int → Option (Out R (Int × Int))} {xs : List α} (L : Int) (f : α → Int → Int) (P : Int → Prop)
 (hend : ∀ k n (i : Nat), (xs.length ≤ i ∨ ¬ n ≤ L) → M (k + 1) n (i : Int) = some (.done (n, (i : Int))))
 (hstep : ∀ k (i : Nat) x n, xs[i]? = some x → P n → n ≤ L → M (k + 1) n (i : Int) = M k (f x n) ((i + 1 : Nat) : Int) ∧ P (f x n)) :
 ∀ k (i : Nat) n, P n → i ≤ xs.length → xs.length - i < k → ∃ j : Nat, M k n (i : Int) = some (.done (zgM L f (xs.drop i) n, (j : Int))) := by
 intro k
 induction k with
 | zero => intro i n _ _ h; omega
 | succ k ih =>
   intro i n hP h1 h2
   by_cases e : i = xs.length
   · subst e; rw [hend k n _ (.inl (Nat.le_refl _)), List.drop_length]; exact ⟨_, rfl⟩
   · have hi : i < xs.length := by omega
     rw [List.drop_eq_getElem_cons hi]
     simp only [zgM]
     by_cases c : n ≤ L
     · obtain ⟨s1, s2⟩ := hstep k i _ n (List.getElem?_eq_getElem hi) hP c
       rw [s1, if_pos c]
       exact ih (i + 1) _ s2 (by omega) (by omega)
     · rw [hend k n i (.inr c), if_neg c]; exact ⟨_, rfl⟩
end Go.Ev
set_option linter.unusedVariables false
namespace Go.Ev
noncomputable def zbx (c26 : Sl zaE) (c27 : Int) (c28 : Int) (c30 : Int) (c31 : Int) (c33 : zah) (sz : Nat) (kk : Nat) : Nat → Int → Int → Option (Out (Int) (Int × Int))
 | 0, _, _ => none
 | k + 1, s29, s32 =>
   sel (
    bnd (ix c33.items.l s32) fun (y34 : zac) =>
    bnd (okP ((zat y34.ann.l < sz ∧ zat y34.ann.l < lim ∧ 0 ≤ (IntKind.wrap .i64 (c27 - s29)) ∧ (IntKind.wrap .i64 (c27 - s29)) ≤ 4294967296 ∧ 0 ≤ (IntKind.wrap .i64 (c28 - 1)) ∧ (IntKind.wrap .i64 (c28 - 1)) ≤ 4294967296))) fun _ =>
    zbx c26 c27 c28 c30 c31 c33 sz kk k (IntKind.wrap .i64 ((IntKind.wrap .i64 (s29 + (y34.value.text.length : Int))) + (zk7 y34.ann (IntKind.wrap .i64 (c27 - s29)) (IntKind.wrap .i64 (c28 - 1))))) (IntKind.wrap .i64 (s32 + 1))) (
    some (.done (s29, s32))) ((decide (s32 < (c33.items.l.length : Int))) && (decide (s29 ≤ c27)))
noncomputable def zby (c15 : Sl zaE) (c16 : Int) (c17 : Int) (c19 : Int) (c20 : Int) (c22 : zah) (sz : Nat) (kk : Nat) : Nat → Int → Int → Option (Out (Int) (Int × Int))
 | 0, _, _ => none
 | k + 1, s18, s21 =>
   sel (
    bnd (ix c22.args.l s21) fun (y23 : (Sl zaE)) =>
    bnd (okP ((zat y23.l < sz ∧ zat y23.l < lim ∧ 0 ≤ (IntKind.wrap .i64 (c16 - s18)) ∧ (IntKind.wrap .i64 (c16 - s18)) ≤ 4294967296 ∧ 0 ≤ (IntKind.wrap .i64 (c17 - 1)) ∧ (IntKind.wrap .i64 (c17 - 1)) ≤ 4294967296))) fun _ =>
    zby c15 c16 c17 c19 c20 c22 sz kk k (IntKind.wrap .i64 (s18 + (zk7 y23 (IntKind.wrap .i64 (c16 - s18)) (IntKind.wrap .i64 (c17 - 1))))) (IntKind.wrap .i64 (s21 + 1))) (
    some (.done (s18, s21))) ((decide (s21 < (c22.args.l.length : Int))) && (decide (s18 ≤ c16)))
noncomputable def zbz (c7 : Sl zaE) (c8 : Int) (c9 : Int) (c11 : Int) (sz : Nat) (kk : Nat) : Nat → Int → Int → Option (Out (Int) (Int × Int))
 | 0, _, _ => none
 | k + 1, s10, s12 =>
   bnd (ix c7.l c11) fun (y13 : zaE) =>
   sel (
    bnd (ix y13.factors.l s12) fun (y14 : zaf) =>
    ziA (zby c7 c8 c9 c11 s12 y14.atom sz kk kk (IntKind.wrap .i64 ((IntKind.wrap .i64 ((IntKind.wrap .i64 (s10 + (y14.atom.items.l.length : Int))) + (y14.atom.args.l.length : Int))) + (y14.atom.bound.text.length : Int))) 0) (fun r => some (.ret r)) fun (q25 : Int × Int) =>
     ziA (zbx c7 c8 c9 c11 s12 y14.atom sz kk kk q25.1 0) (fun r => some (.ret r)) fun (q36 : Int × Int) =>
      zbz c7 c8 c9 c11 sz kk k q36.1 (IntKind.wrap .i64 (s12 + 1))) (
    some (.done (s10, s12))) ((decide (s12 < (y13.factors.l.length : Int))) && (decide (s10 ≤ c8)))
noncomputable def zbT (c1 : Sl zaE) (c2 : Int) (c3 : Int) (sz : Nat) (kk : Nat) : Nat → Int → Int → Option (Out (Int) (Int × Int))
 | 0, _, _ => none
 | k + 1, s4, s5 =>
   sel (
    bnd (ix c1.l s5) fun (y6 : zaE) =>
    ziA (zbz c1 c2 c3 s5 sz kk kk (IntKind.wrap .i64 ((IntKind.wrap .i64 (s4 + 1)) + (y6.factors.l.length : Int))) 0) (fun r => some (.ret r)) fun (q37 : Int × Int) =>
     zbT c1 c2 c3 sz kk k q37.1 (IntKind.wrap .i64 (s5 + 1))) (
    some (.done (s4, s5))) ((decide (s5 < (c1.l.length : Int))) && (decide (s4 ≤ c2)))
noncomputable def zet (kk : Nat) (sz : Nat) (a : (Sl zaE)) (b : Int) (c : Int) : Option (Int) :=
 sel (
  some (IntKind.wrap .i64 (b + 1))) (
  ziA (zbT a b c sz kk kk 0 0) (fun r => some r) fun (q38 : Int × Int) =>
   some q38.1) (c == 0)
noncomputable def zcQ (c1 : Int) (c2 : Sl (Sl zaE)) (kk : Nat) : Nat → Int → Option (Out (Bool) (Int))
 | 0, _ => none
 | k + 1, s3 =>
   sel (
    bnd (ix c2.l s3) fun (y4 : (Sl zaE)) =>
    bnd (okP ((zat y4.l < big - 1 ∧ zat y4.l < lim ∧ 0 ≤ c1 ∧ c1 ≤ 4294967296 ∧ 0 ≤ (12 : Int) ∧ (12 : Int) ≤ 4294967296))) fun _ =>
    sel (
     some (.ret false)) (
     zcQ c1 c2 kk k (IntKind.wrap .i64 (s3 + 1))) (decide (c1 < (zk7 y4 c1 12)))) (
    some (.done s3)) (decide (s3 < (c2.l.length : Int)))
noncomputable def zhH (kk : Nat) (a : Int) (b : (Sl (Sl zaE))) : Option (Bool) :=
 ziA (zcQ a b kk kk 0) (fun r => some r) fun (q6 : Int) =>
  some true
end Go.Ev
namespace Go.Ev
theorem zrt {x : Sl zaE} {L d : Int} (h : 0 ≤ L) : 0 ≤ zk7 x L d ∧ zk7 x L d ≤ L + 1 + zat x.l := by
 unfold zk7
 split
 · omega
 · have := zg3 x.l L d 0 h; omega
theorem zid {c26 : Sl zaE} {L d c30 c31 : Int} {a : zah} {sz kk k : Nat} {n : Int} (h1 : zbR a.items.l < sz) (h2 : zbR a.items.l < lim) (hL : 0 ≤ L) (hL2 : L ≤ 4294967296) (hd : 1 ≤ d) (hd2 : d ≤ 4294967296) (hn : 0 ≤ n) (hk : a.items.l.length < k) :
 ∃ j : Nat, zbx c26 L d c30 c31 a sz kk k n 0 = some (.done (zfB L d a.items.l n, (j : Int))) := by
 have hlen := zeY a.items.l
 have hb1 : big = 1152921504606846976 := rfl
 rw [zcV] at h2
 have := zg8 (M := zbx c26 L d c30 c31 a sz kk) (xs := a.items.l) L (zk5 L d) (fun n => 0 ≤ n) (fun k n i hi => ?_) (fun k i x n hx hn hnL => ?_) k 0 n hn (by omega) (by omega)
 · rw [List.drop_zero] at this
   rw [znS]; exact this
 · rw [zbx]
   rcases hi with hi | hi
   · rw [decide_eq_false (by omega)]; rfl
   · rw [decide_eq_false hi, Bool.and_false]; rfl
 · have hi := (List.getElem?_eq_some_iff.1 hx).1
   have hsz := zgK hx
   have hsz2 := zi7 x
   have hbd := zo1 x L d n hL hnL
   have hbd2 := zrt (x := x.ann) (L := L - n) (d := d - 1) (by omega)
   have hlim := zcV
   refine ⟨?_, by omega⟩
   rw [ztr] at hbd ⊢
   rw [zbx, decide_eq_true (show (i : Int) < a.items.l.length by omega), decide_eq_true hnL, Bool.and_self, zaN, zcW, hx, zai]
   rw [zb0 (n := L - n) (by omega) (by omega), zb0 (n := d - 1) (by omega) (by omega), zb5 ⟨by omega, by omega, by omega, by omega, by omega, by omega⟩, zai, zbh (by omega), zb0 (n := n + _) (by omega) (by omega), zb0 (by omega) (by omega)]
theorem zie {c15 : Sl zaE} {L d c19 c20 : Int} {a : zah} {sz kk k : Nat} {n : Int} (h1 : zcE a.args.l < sz) (h2 : zcE a.args.l < lim) (hL : 0 ≤ L) (hL2 : L ≤ 4294967296) (hd : 1 ≤ d) (hd2 : d ≤ 4294967296) (hn : 0 ≤ n) (hk : a.args.l.length < k) :
 ∃ j : Nat, zby c15 L d c19 c20 a sz kk k n 0 = some (.done (zgI L d a.args.l n, (j : Int))) := by
 have hlen := zd0 a.args.l
 have hb1 : big = 1152921504606846976 := rfl
 rw [zcV] at h2
 have := zg8 (M := zby c15 L d c19 c20 a sz kk) (xs := a.args.l) L (fun x n => n + zk7 x (L - n) (d - 1)) (fun n => 0 ≤ n) (fun k n i hi => ?_) (fun k i x n hx hn hnL => ?_) k 0 n hn (by omega) (by omega)
 · rw [List.drop_zero] at this
   rw [zp6]; exact this
 · rw [zby]
   rcases hi with hi | hi
   · rw [decide_eq_false (by omega)]; rfl
   · rw [decide_eq_false hi, Bool.and_false]; rfl
 · have hi := (List.getElem?_eq_some_iff.1 hx).1
   have hsz := zf4 hx
   have hbd2 := zrt (x := x) (L := L - n) (d := d - 1) (by omega)
   have hlim := zcV
   refine ⟨?_, by omega⟩
   rw [zby, decide_eq_true (show (i : Int) < a.args.l.length by omega), decide_eq_true hnL, Bool.and_self, zaN, zcW, hx, zai]
   rw [zb0 (n := L - n) (by omega) (by omega), zb0 (n := d - 1) (by omega) (by omega), zb5 ⟨by omega, by omega, by omega, by omega, by omega, by omega⟩, zai, zbh (by omega), zb0 (by omega) (by omega)]
theorem zif {c7 : Sl zaE} {L d : Int} {p : Nat} {t : zaE} {sz kk k : Nat} {n : Int} (ht : c7.l[p]? = some t) (h1 : zfD t < sz) (h2 : zfD t < lim) (hL : 0 ≤ L) (hL2 : L ≤ 4294967296) (hd : 1 ≤ d) (hd2 : d ≤ 4294967296) (hn : 0 ≤ n) (hk : t.factors.l.length < k) (hkk : sz < kk) :
 ∃ j : Nat, zbz c7 L d (p : Int) sz kk k n 0 = some (.done (zc2 L d t.factors.l n, (j : Int))) := by
 have hlen := zdM t.factors.l
 have hzt := zg5 t
 have hb1 : big = 1152921504606846976 := rfl
 rw [zcV] at h2
 have := zg8 (M := zbz c7 L d (p : Int) sz kk) (xs := t.factors.l) L (zeX L d) (fun n => 0 ≤ n) (fun k n i hi => ?_) (fun k i x n hx hn hnL => ?_) k 0 n hn (by omega) (by omega)
 · rw [List.drop_zero] at this
   rw [zk6]; exact this
 · rw [zbz, zcW, ht, zai]
   rcases hi with hi | hi
   · rw [decide_eq_false (by omega)]; rfl
   · rw [decide_eq_false hi, Bool.and_false]; rfl
 · have hi := (List.getElem?_eq_some_iff.1 hx).1
   have hsz := zeZ hx
   have hsz2 := zgL x
   have hsz3 := zg7 x.atom
   have hsz4 := zd0 x.atom.args.l
   have hsz5 := zeY x.atom.items.l
   have hbd := zkx x L d n hL hnL
   have hbd1 := ziO x.atom.args.l L d (n + x.atom.items.l.length + x.atom.args.l.length + x.atom.bound.text.length) hL
   have hlim := zcV
   refine ⟨?_, by omega⟩
   obtain ⟨j2, e2⟩ := zie (c15 := c7) (L := L) (d := d) (c19 := (p : Int)) (c20 := (i : Int)) (a := x.atom) (sz := sz) (kk := kk) (k := kk) (n := n + x.atom.items.l.length + x.atom.args.l.length + x.atom.bound.text.length) (by omega) (by omega) hL hL2 hd hd2 (by omega) (by omega)
   obtain ⟨j3, e3⟩ := zid (c26 := c7) (L := L) (d := d) (c30 := (p : Int)) (c31 := (i : Int)) (a := x.atom) (sz := sz) (kk := kk) (k := kk) (n := zgI L d x.atom.args.l (n + x.atom.items.l.length + x.atom.args.l.length + x.atom.bound.text.length)) (by omega) (by omega) hL hL2 hd hd2 (by omega) (by omega)
   rw [zbz, zcW, ht, zai, decide_eq_true (show (i : Int) < t.factors.l.length by omega), decide_eq_true hnL, Bool.and_self, zaN, zcW, hx, zai]
   rw [zb0 (n := n + _) (by omega) (by omega), zb0 (n := n + _ + _) (by omega) (by omega), zb0 (n := n + _ + _ + _) (by omega) (by omega), e2, zbN]
   simp only
   rw [e3, zbN, zbh (by omega), zp5, zts]
theorem zjS {kk sz : Nat} {a : Sl zaE} {b c : Int} (h : zat a.l < sz + 1 ∧ zat a.l < lim ∧ 0 ≤ b ∧ b ≤ 4294967296 ∧ 0 ≤ c ∧ c ≤ 4294967296) (hk : sz < kk) (_hb : sz + 1 < big) : zet kk sz a b c = some (zk7 a b c) := by
 obtain ⟨h1, h2, h3, h4, h5, h6⟩ := h
 have hlen := zi6 a.l
 have hb1 : big = 1152921504606846976 := rfl
 rw [zcV] at h2
 unfold zet zk7
 rw [zvf]
 by_cases hc : c = 0
 · rw [if_pos hc, if_pos hc, zb0 (by omega) (by omega)]
 · rw [if_neg hc, if_neg hc]
   have := zg8 (M := zbT a b c sz kk) (xs := a.l) b (zk4 b c) (fun n => 0 ≤ n) (fun k n i hi => ?_) (fun k i x n hx hn hnL => ?_) kk 0 0 (by omega) (by omega) (by omega)
   · obtain ⟨j, e⟩ := this
     rw [List.drop_zero, show ((0 : Nat) : Int) = 0 from rfl] at e
     rw [e, zbN, znR]
   · rw [zbT]
     rcases hi with hi | hi
     · rw [decide_eq_false (by omega)]; rfl
     · rw [decide_eq_false hi, Bool.and_false]; rfl
   · have hi := (List.getElem?_eq_some_iff.1 hx).1
     have hsz := zgJ hx
     have hsz2 := zg5 x
     have hsz3 := zdM x.factors.l
     have hbd := zo0 x b c n h3 hnL
     have hlim := zcV
     refine ⟨?_, by omega⟩
     obtain ⟨j, e⟩ := zif (c7 := a) (L := b) (d := c) (p := i) (t := x) (sz := sz) (kk := kk) (k := kk) (n := n + 1 + x.factors.l.length) hx (by omega) (by omega) h3 h4 (by omega) h6 (by omega) (by omega) hk
     rw [zbT, decide_eq_true (show (i : Int) < a.l.length by omega), decide_eq_true hnL, Bool.and_self, zaN, zcW, hx, zai]
     rw [zb0 (n := n + 1) (by omega) (by omega), zb0 (n := n + 1 + _) (by omega) (by omega), e, zbN, zbh (by omega), ztq]
def zvD (L : Int) (l : Sl (Sl zaE)) : Bool := l.l.all fun a => decide (zk7 a L 12 ≤ L)
theorem znv {kk : Nat} {a : Int} {b : Sl (Sl zaE)} (h : 0 ≤ a ∧ a ≤ 4294967296 ∧ zcE b.l < lim) (hk : b.l.length < kk) : zhH kk a b = some (zvD a b) := by
 obtain ⟨h1, h2, h3⟩ := h
 have hlen := zd0 b.l
 have hb1 : big = 1152921504606846976 := rfl
 rw [zcV] at h3
 unfold zhH zvD
 rw [zjL (xs := b.l) (L := zcQ a b kk) (fun x => !decide (zk7 x a 12 ≤ a)) false (fun k => by simp [zcQ]) (fun k i x hi ex => ?_) hk, zoU]
 · generalize b.l.all _ = u; cases u <;> rfl
 · have hx := zf4 ex
   simp only [zcQ, zio, decide_eq_true hi, zaN, zcW, ex, zai]
   rw [zb5 ⟨by omega, by rw [zcV]; omega, h1, h2, by omega, by omega⟩, zai, zbh (by omega)]
   by_cases c : zk7 x a 12 ≤ a
   · rw [decide_eq_true c, decide_eq_false (by omega)]; rfl
   · rw [decide_eq_false c, decide_eq_true (by omega)]; rfl
end Go.Ev
namespace Go.Ev
def zbd (l : List Val) : Nat := zgq (fun v => v.text.length + 1) l
def zr9 (h b : Int) : Int := IntKind.wrap .u64 ((zxT .u64 h (IntKind.wrap .u64 b)) * 1099511628211)
def zi2 : Nat → Int → Int → Int
 | 0, h, _ => h
 | r + 1, h, n => zi2 r (zr9 h (IntKind.wrap .u8 n)) (zv2 .u64 n 8)
def znX (h : Int) (s : Str) : Int := s.foldl (fun h b => zr9 h (b.toNat : Int)) h
def zor (h : Int) (v : Val) : Int := znX (zi2 8 (zi2 8 (zr9 h (IntKind.wrap .u8 v.kind)) (IntKind.wrap .u64 v.int)) (IntKind.wrap .u64 (v.text.length : Int))) v.text
def zkc (l : List Val) : Int := l.foldl zor 14695981039346656037
def zjq (a : Sl Val) : Int := zkc a.l
def okK (a : zaK) (k : Int) : Bool := decide (0 ≤ k) && decide (k < (a.values.l.length : Int))
def zga (a : zaK) (k : Int) : Val := a.values.l.getD k.toNat Val.zero
def zoo (a : zaK) (b : Sl Int) : Sl Val × Bool := if b.l.all (okK a) then (Sl.out (b.l.map (zga a)), true) else (Sl.nil, false)
def zdF (a : zaK) (b : Sl Int) : Sl Val × Bool := if b.l.all (okK a) then (Sl.of (b.l.map (zga a)), true) else (Sl.nil, false)
def zbj (a : zaK) (b : Sl Int) (c d : Int) : Int :=
 if b.l.all (okK a) && (decide (1 ≤ c) && decide (0 ≤ d)) then (zkc (b.l.map (zga a) ++ [Val.zero.setInt d])).tmod c else -1
def zik (a : Sl Val) (n : Int) : Bool := a.l.all (fun v => decide (v.text.length ≤ 300)) && decide ((a.l.length : Int) ≤ n)
def zju (a : Sl zaK) (b : Int) : Bool := decide ((a.l.length : Int) ≤ b) && a.l.all fun x => zik x.values 6 && zvD 20 (Sl.of [x.ann])
def zgg (a b : Sl Val) : Int := zjF zco a.l b.l
def zf7 (a b : Sl Val) : Bool := zgg a b == 0
def zla (x y : zaK) : Bool := zf7 x.values y.values && zkA x.ann y.ann
def zja : List zaK → List zaK → Bool
 | x :: xs, y :: ys => zla x y && zja xs ys
 | _, _ => true
def zgA (a b : Sl zaK) : Bool := a.l.length == b.l.length && zja a.l b.l
def zwL (a : zaK) : Prop := zbd a.values.l < lim ∧ zat a.ann.l + 1 < lim
def zpm (a b : zaK) (c : Sl Int) (d e : Int) : Prop := zwL a ∧ zwL b ∧ c.l.length < lim ∧ zgC d ∧ zgC e
def znh : Bool := true
def zrw (_ _ : zaK) (_ : Sl Int) (_ _ : Int) : Bool := true
end Go.Ev
set_option linter.unusedVariables false
namespace Go.Ev
noncomputable def zeT (kk : Nat) (a : Int) (b : Int) : Option (Int) :=
 some (IntKind.wrap .u64 ((zxT .u64 a (IntKind.wrap .u64 b)) * 1099511628211))
noncomputable def zc1 (kk : Nat) : Nat → Int → Int → Int → Option (Out (Int) (Int × Int × Int))
 | 0, _, _, _ => none
 | k + 1, s1, s2, s3 =>
   sel (
    bnd (zeT kk s1 (IntKind.wrap .u8 s2)) fun (r4 : Int) =>
    zc1 kk k r4 (zv2 .u64 s2 8) (IntKind.wrap .i64 (s3 + 1))) (
    some (.done (s1, s2, s3))) (decide (s3 < 8))
noncomputable def zd2 (kk : Nat) (a : Int) (b : Int) : Option (Int) :=
 ziA (zc1 kk kk a b 0) (fun r => some r) fun (q5 : Int × Int × Int) =>
  some q5.1
noncomputable def zbQ (c8 : Sl Val) (c10 : Int) (kk : Nat) : Nat → Int → Int → Option (Out (Int) (Int × Int))
 | 0, _, _ => none
 | k + 1, s9, s11 =>
   bnd (ix c8.l c10) fun (y12 : Val) =>
   sel (
    bnd (ix y12.text s11) fun (y13 : UInt8) =>
    bnd (zeT kk s9 (y13.toNat : Int)) fun (r14 : Int) =>
    zbQ c8 c10 kk k r14 (IntKind.wrap .i64 (s11 + 1))) (
    some (.done (s9, s11))) (decide (s11 < (y12.text.length : Int)))
noncomputable def zct (c1 : Sl Val) (kk : Nat) : Nat → Int → Int → Option (Out (Int) (Int × Int))
 | 0, _, _ => none
 | k + 1, s2, s3 =>
   sel (
    bnd (ix c1.l s3) fun (y4 : Val) =>
    bnd (zeT kk s2 (IntKind.wrap .u8 y4.kind)) fun (r5 : Int) =>
    bnd (zd2 kk r5 (IntKind.wrap .u64 y4.int)) fun (r6 : Int) =>
    bnd (zd2 kk r6 (IntKind.wrap .u64 (y4.text.length : Int))) fun (r7 : Int) =>
    ziA (zbQ c1 s3 kk kk r7 0) (fun r => some (.ret r)) fun (q15 : Int × Int) =>
     zct c1 kk k q15.1 (IntKind.wrap .i64 (s3 + 1))) (
    some (.done (s2, s3))) (decide (s3 < (c1.l.length : Int)))
noncomputable def zgm (kk : Nat) (a : (Sl Val)) : Option (Int) :=
 ziA (zct a kk kk 14695981039346656037 0) (fun r => some r) fun (q16 : Int × Int) =>
  some q16.1
noncomputable def zce (kk : Nat) (a : Int) (u0 : Int) : Option (Int) :=
 some (IntKind.wrap .u64 ((zxT .u64 u0 (IntKind.wrap .u64 a)) * 1099511628211))
noncomputable def zbL (kk : Nat) : Nat → Int → Int → Int → Option (Out (Int) (Int × Int × Int))
 | 0, _, _, _ => none
 | k + 1, s1, s2, s3 =>
   sel (
    bnd (zce kk (IntKind.wrap .u8 s1) s3) fun (r4 : Int) =>
    zbL kk k (zv2 .u64 s1 8) (IntKind.wrap .i64 (s2 + 1)) r4) (
    some (.done (s1, s2, s3))) (decide (s2 < 8))
noncomputable def zcd (kk : Nat) (a : Int) (u1 : Int) : Option (Int) :=
 ziA (zbL kk kk a 0 u1) (fun r => some r) fun (q5 : Int × Int × Int) =>
  some q5.2.2
noncomputable def zcb (c9 : Sl Val) (c10 : Int) (c11 : Int) (c12 : Int) (c15 : Val) (kk : Nat) : Nat → Int → Int → Option (Out (Int) (Int × Int))
 | 0, _, _ => none
 | k + 1, s13, s14 =>
   sel (
    bnd (ix c15.text s13) fun (y16 : UInt8) =>
    bnd (zce kk (y16.toNat : Int) s14) fun (r17 : Int) =>
    zcb c9 c10 c11 c12 c15 kk k (IntKind.wrap .i64 (s13 + 1)) r17) (
    some (.done (s13, s14))) (decide (s13 < c12))
noncomputable def zcc (c1 : Sl Val) (c2 : Int) (kk : Nat) : Nat → Int → Int → Option (Out (Int) (Int × Int))
 | 0, _, _ => none
 | k + 1, s3, s4 =>
   sel (
    bnd (ix c1.l s3) fun (y5 : Val) =>
    bnd (zce kk (IntKind.wrap .u8 y5.kind) s4) fun (r6 : Int) =>
    bnd (zcd kk (IntKind.wrap .u64 y5.int) r6) fun (r7 : Int) =>
    bnd (zcd kk (IntKind.wrap .u64 (y5.text.length : Int)) r7) fun (r8 : Int) =>
    ziA (zcb c1 c2 s3 (y5.text.length : Int) y5 kk kk 0 r8) (fun r => some (.ret r)) fun (q18 : Int × Int) =>
     zcc c1 c2 kk k (IntKind.wrap .i64 (s3 + 1)) q18.2) (
    some (.done (s3, s4))) (decide (s3 < c2))
noncomputable def zer (kk : Nat) (a : (Sl Val)) : Option (Int) :=
 ziA (zcc a (a.l.length : Int) kk kk 0 14695981039346656037) (fun r => some r) fun (q19 : Int × Int) =>
  some q19.2
noncomputable def zba (c2 : Sl Int) (c3 : Int) (c5 : zaK) (kk : Nat) : Nat → List Val → Int → Option (Out ((Sl Val) × Bool) (List Val × Int))
 | 0, _, _ => none
 | k + 1, s1, s4 =>
   sel (
    bnd (ix c2.l s4) fun (y6 : Int) =>
    sel (
     some (.ret (Sl.nil, false))) (
     bnd (ix c5.values.l y6) fun (y7 : Val) =>
     bnd (okP ((s1.length + 1) * 32 ≤ zhO)) fun _ =>
     zba c2 c3 c5 kk k (s1 ++ [y7]) (IntKind.wrap .i64 (s4 + 1))) ((decide (y6 < 0)) || (decide ((c5.values.l.length : Int) ≤ y6)))) (
    some (.done (s1, s4))) (decide (s4 < c3))
noncomputable def zb9 (kk : Nat) (a : zaK) (b : (Sl Int)) : Option ((Sl Val) × Bool) :=
 ziA (zba b (b.l.length : Int) a kk kk [] 0) (fun r => some r) fun (q9 : List Val × Int) =>
  some ((Sl.out q9.1), true)
noncomputable def zcO (c1 : Sl Int) (c4 : zaK) (kk : Nat) : Nat → List Val → Int → Option (Out ((Sl Val) × Bool) (List Val × Int))
 | 0, _, _ => none
 | k + 1, s2, s3 =>
   sel (
    bnd (ix c1.l s3) fun (y5 : Int) =>
    sel (
     some (.ret (Sl.nil, false))) (
     bnd (ix c4.values.l y5) fun (y6 : Val) =>
     bnd (okP ((s2.length + 1) * 32 ≤ zhO)) fun _ =>
     zcO c1 c4 kk k (s2 ++ [y6]) (IntKind.wrap .i64 (s3 + 1))) ((decide (y5 < 0)) || (decide ((c4.values.l.length : Int) ≤ y5)))) (
    some (.done (s2, s3))) (decide (s3 < (c1.l.length : Int)))
noncomputable def zf0 (kk : Nat) (a : zaK) (b : (Sl Int)) : Option ((Sl Val) × Bool) :=
 ziA (zcO b a kk kk [] 0) (fun r => some r) fun (q8 : List Val × Int) =>
  some ((Sl.of q8.1), true)
noncomputable def zcz (kk : Nat) (a : zaK) (b : (Sl Int)) (c : Int) (d : Int) : Option (Int) :=
 bnd (okP (b.l.length < lim)) fun _ =>
 sel (
  sel (
   some (-1)) (
   bnd (okP (zbd (Sl.of [(Val.zero.setInt d)]).l < lim)) fun _ =>
   bnd (okP (((IntKind.wrap .u64 c) = 0) = False)) fun _ =>
   some (IntKind.wrap .i64 ((zjq (Sl.of [(Val.zero.setInt d)])).tmod (IntKind.wrap .u64 c)))) (((!((zoo a b).2)) || (decide (c < 1))) || (decide (d < 0)))) (
  sel (
   some (-1)) (
   bnd (okP (((((zoo a b).1).l).length + 1) * 32 ≤ zhO)) fun _ =>
   bnd (okP (zbd (Sl.of (((zoo a b).1).l ++ [(Val.zero.setInt d)])).l < lim)) fun _ =>
   bnd (okP (((IntKind.wrap .u64 c) = 0) = False)) fun _ =>
   some (IntKind.wrap .i64 ((zjq (Sl.of (((zoo a b).1).l ++ [(Val.zero.setInt d)]))).tmod (IntKind.wrap .u64 c)))) (((!((zoo a b).2)) || (decide (c < 1))) || (decide (d < 0)))) (zev ((zoo a b).1))
noncomputable def zes (kk : Nat) (a : zaK) (b : (Sl Int)) (c : Int) (d : Int) : Option (Int) :=
 bnd (okP (b.l.length < lim)) fun _ =>
 sel (
  sel (
   some (-1)) (
   bnd (okP (zbd (Sl.of [(Val.zero.setInt d)]).l < lim)) fun _ =>
   bnd (okP (((IntKind.wrap .u64 c) = 0) = False)) fun _ =>
   some (IntKind.wrap .i64 ((zjq (Sl.of [(Val.zero.setInt d)])).tmod (IntKind.wrap .u64 c)))) (((!((zdF a b).2)) || (decide (c < 1))) || (decide (d < 0)))) (
  sel (
   some (-1)) (
   bnd (okP (((((zdF a b).1).l).length + 1) * 32 ≤ zhO)) fun _ =>
   bnd (okP (zbd (Sl.of (((zdF a b).1).l ++ [(Val.zero.setInt d)])).l < lim)) fun _ =>
   bnd (okP (((IntKind.wrap .u64 c) = 0) = False)) fun _ =>
   some (IntKind.wrap .i64 ((zjq (Sl.of (((zdF a b).1).l ++ [(Val.zero.setInt d)]))).tmod (IntKind.wrap .u64 c)))) (((!((zdF a b).2)) || (decide (c < 1))) || (decide (d < 0)))) (zev ((zdF a b).1))
noncomputable def zb3 (c1 : Sl Val) (c2 : Int) (kk : Nat) : Nat → Int → Option (Out (Bool) (Int))
 | 0, _ => none
 | k + 1, s3 =>
   sel (
    bnd (ix c1.l s3) fun (y4 : Val) =>
    sel (
     some (.ret false)) (
     zb3 c1 c2 kk k (IntKind.wrap .i64 (s3 + 1))) (decide (300 < (y4.text.length : Int)))) (
    some (.done s3)) (decide (s3 < (c1.l.length : Int)))
noncomputable def zfo (kk : Nat) (a : (Sl Val)) (b : Int) : Option (Bool) :=
 ziA (zb3 a b kk kk 0) (fun r => some r) fun (q5 : Int) =>
  some (decide ((a.l.length : Int) ≤ b))
noncomputable def zcP (c1 : Sl zaK) (kk : Nat) : Nat → Int → Option (Out (Bool) (Int))
 | 0, _ => none
 | k + 1, s2 =>
   sel (
    bnd (ix c1.l s2) fun (y3 : zaK) =>
    bnd (okP (y3.values.l.length < big - 1)) fun _ =>
    sel (
     bnd (okP (0 ≤ (20 : Int) ∧ (20 : Int) ≤ 4294967296 ∧ zcE (Sl.of [y3.ann]).l < lim)) fun _ =>
     sel (
      some (.ret false)) (
      zcP c1 kk k (IntKind.wrap .i64 (s2 + 1))) (!((zvD 20 (Sl.of [y3.ann]))))) (
     some (.ret false)) (!(!((zik y3.values 6))))) (
    some (.done s2)) (decide (s2 < (c1.l.length : Int)))
noncomputable def zhG (kk : Nat) (a : (Sl zaK)) (b : Int) : Option (Bool) :=
 sel (
  some false) (
  ziA (zcP a kk kk 0) (fun r => some r) fun (q6 : Int) =>
   some true) (decide (b < (a.l.length : Int)))
noncomputable def zhF (kk : Nat) (a : (Sl zaK)) (b : Int) : Option (Bool) :=
 bnd (okP (a.l.length < big - 1 ∧ ∀ x ∈ a.l, x.values.l.length < big - 1 ∧ zat x.ann.l + 1 < lim)) fun _ =>
 some ((zju a b))
noncomputable def zbG (c1 : Sl Val) (c2 : Sl Val) (kk : Nat) : Nat → Int → Option (Out (Int) (Int))
 | 0, _ => none
 | k + 1, s3 =>
   sel (
    bnd (ix c1.l s3) fun (y4 : Val) =>
    bnd (ix c2.l s3) fun (y5 : Val) =>
    sel (
     some (.ret (zco y4 y5))) (
     zbG c1 c2 kk k (IntKind.wrap .i64 (s3 + 1))) ((zco y4 y5) != 0)) (
    some (.done s3)) ((decide (s3 < (c1.l.length : Int))) && (decide (s3 < (c2.l.length : Int))))
noncomputable def zcy (kk : Nat) (a : (Sl Val)) (b : (Sl Val)) : Option (Int) :=
 ziA (zbG a b kk kk 0) (fun r => some r) fun (q6 : Int) =>
  sel (
   some 0) (
   some (sgn (decide ((a.l.length : Int) < (b.l.length : Int))))) ((a.l.length : Int) == (b.l.length : Int))
noncomputable def zgl (kk : Nat) (a : (Sl Val)) (b : (Sl Val)) : Option (Bool) :=
 bnd (okP (a.l.length < big - 1 ∧ b.l.length < big - 1)) fun _ =>
 some ((zgg a b) == 0)
noncomputable def zc0 (c1 : Sl zaK) (c2 : Sl zaK) (kk : Nat) : Nat → Int → Option (Out (Bool) (Int))
 | 0, _ => none
 | k + 1, s3 =>
   sel (
    bnd (ix c1.l s3) fun (y4 : zaK) =>
    bnd (ix c2.l s3) fun (y5 : zaK) =>
    bnd (okP (y4.values.l.length < big - 1 ∧ y5.values.l.length < big - 1)) fun _ =>
    sel (
     bnd (okP (zat y4.ann.l + zat y5.ann.l < big - 1)) fun _ =>
     sel (
      some (.ret false)) (
      zc0 c1 c2 kk k (IntKind.wrap .i64 (s3 + 1))) (!((zkA y4.ann y5.ann)))) (
     some (.ret false)) (!(!((zf7 y4.values y5.values))))) (
    some (.done s3)) (decide (s3 < (c1.l.length : Int)))
noncomputable def zgj (kk : Nat) (a : (Sl zaK)) (b : (Sl zaK)) : Option (Bool) :=
 sel (
  some false) (
  ziA (zc0 a b kk kk 0) (fun r => some r) fun (q8 : Int) =>
   some true) ((a.l.length : Int) != (b.l.length : Int))
noncomputable def zbo (c1 : Sl Int) (c2 : Int) (c3 : Int) (c4 : zaK) (c5 : zaK) (kk : Nat) : Option (Bool) :=
 sel (
  bnd (okP ((Sl.of [c4, c5]).l.length < big - 1 ∧ ∀ x ∈ (Sl.of [c4, c5]).l, x.values.l.length < big - 1 ∧ zat x.ann.l + 1 < lim)) fun _ =>
  some ((!((zju (Sl.of [c4, c5]) 2))) || (decide (4 < (c1.l.length : Int))))) (
  some true) (!(!((znh))))
noncomputable def zbK (kk : Nat) (a : zaK) (b : zaK) (c : (Sl Int)) (d : Int) (e : Int) : Option (Bool) :=
 bnd (zbo c d e a b kk) fun (q7 : Bool) =>
 sel (
  some ((znh))) (
  bnd (okP (c.l.length < lim ∧ zbd (c.l.map (zga a)) + 1 < lim ∧ zgC d)) fun _ =>
  bnd (okP (c.l.length < lim ∧ zbd (c.l.map (zga a)) + 1 < lim ∧ zgC d)) fun _ =>
  sel (
   some false) (
   bnd (okP (c.l.length < lim)) fun _ =>
   sel (
    bnd (okP (c.l.length < lim)) fun _ =>
    sel (
     sel (
      bnd (okP ((Sl.of [(zaK.zero.setValues Sl.nil)]).l.length < big - 1 ∧ (∀ x ∈ (Sl.of [(zaK.zero.setValues Sl.nil)]).l, x.values.l.length < big - 1 ∧ zat x.ann.l < lim) ∧ (∀ x ∈ (Sl.of [(zaK.zero.setValues Sl.nil)]).l, x.values.l.length < big - 1 ∧ zat x.ann.l < lim))) fun _ =>
      sel (
       bnd (okP (c.l.length < lim ∧ zbd (c.l.map (zga b)) + 1 < lim ∧ zgC d)) fun _ =>
       some ((zbj b c d e) == (zbj a c d e))) (
       some true) (!(!((zgA (Sl.of [(zaK.zero.setValues Sl.nil)]) (Sl.of [(zaK.zero.setValues Sl.nil)])))))) (
      some true) (((zdF a c).2) && ((zdF b c).2))) (
     sel (
      bnd (okP ((Sl.of [(zaK.zero.setValues Sl.nil)]).l.length < big - 1 ∧ (∀ x ∈ (Sl.of [(zaK.zero.setValues Sl.nil)]).l, x.values.l.length < big - 1 ∧ zat x.ann.l < lim) ∧ (∀ x ∈ (Sl.of [(zaK.zero.setValues (Sl.of ((zdF b c).1).l))]).l, x.values.l.length < big - 1 ∧ zat x.ann.l < lim))) fun _ =>
      sel (
       bnd (okP (c.l.length < lim ∧ zbd (c.l.map (zga b)) + 1 < lim ∧ zgC d)) fun _ =>
       some ((zbj b c d e) == (zbj a c d e))) (
       some true) (!(!((zgA (Sl.of [(zaK.zero.setValues Sl.nil)]) (Sl.of [(zaK.zero.setValues (Sl.of ((zdF b c).1).l))])))))) (
      some true) (((zdF a c).2) && ((zdF b c).2))) (zev ((zdF b c).1))) (
    bnd (okP (c.l.length < lim)) fun _ =>
    sel (
     sel (
      bnd (okP ((Sl.of [(zaK.zero.setValues (Sl.of ((zdF a c).1).l))]).l.length < big - 1 ∧ (∀ x ∈ (Sl.of [(zaK.zero.setValues (Sl.of ((zdF a c).1).l))]).l, x.values.l.length < big - 1 ∧ zat x.ann.l < lim) ∧ (∀ x ∈ (Sl.of [(zaK.zero.setValues Sl.nil)]).l, x.values.l.length < big - 1 ∧ zat x.ann.l < lim))) fun _ =>
      sel (
       bnd (okP (c.l.length < lim ∧ zbd (c.l.map (zga b)) + 1 < lim ∧ zgC d)) fun _ =>
       some ((zbj b c d e) == (zbj a c d e))) (
       some true) (!(!((zgA (Sl.of [(zaK.zero.setValues (Sl.of ((zdF a c).1).l))]) (Sl.of [(zaK.zero.setValues Sl.nil)])))))) (
      some true) (((zdF a c).2) && ((zdF b c).2))) (
     sel (
      bnd (okP ((Sl.of [(zaK.zero.setValues (Sl.of ((zdF a c).1).l))]).l.length < big - 1 ∧ (∀ x ∈ (Sl.of [(zaK.zero.setValues (Sl.of ((zdF a c).1).l))]).l, x.values.l.length < big - 1 ∧ zat x.ann.l < lim) ∧ (∀ x ∈ (Sl.of [(zaK.zero.setValues (Sl.of ((zdF b c).1).l))]).l, x.values.l.length < big - 1 ∧ zat x.ann.l < lim))) fun _ =>
      sel (
       bnd (okP (c.l.length < lim ∧ zbd (c.l.map (zga b)) + 1 < lim ∧ zgC d)) fun _ =>
       some ((zbj b c d e) == (zbj a c d e))) (
       some true) (!(!((zgA (Sl.of [(zaK.zero.setValues (Sl.of ((zdF a c).1).l))]) (Sl.of [(zaK.zero.setValues (Sl.of ((zdF b c).1).l))])))))) (
      some true) (((zdF a c).2) && ((zdF b c).2))) (zev ((zdF b c).1))) (zev ((zdF a c).1))) (((zbj a c d e) != (zbj a c d e)) || (decide ((if d < 0 then 0 else d) ≤ (zbj a c d e))))) (q7)
end Go.Ev
namespace Go.Ev
theorem zdk (v : Val) (l : List Val) : zbd (v :: l) = v.text.length + 1 + zbd l := rfl
theorem zeF (l : List Val) : l.length ≤ zbd l := by
 induction l with
 | nil => exact Nat.zero_le _
 | cons v l ih => rw [zdk, List.length_cons]; omega
theorem zky {l : List Val} {i : Nat} {v : Val} (h : l[i]? = some v) : v.text.length + 1 ≤ zbd l := by
 induction l generalizing i with
 | nil => simp at h
 | cons x l ih =>
   rw [zdk]
   cases i with
   | zero => simp at h; subst h; omega
   | succ i => have := ih (by simpa using h); omega
theorem zwz (x : Int) : 0 ≤ IntKind.wrap .u64 x ∧ IntKind.wrap .u64 x < 18446744073709551616 := by
 have : IntKind.wrap .u64 x = x % 18446744073709551616 := by simp [IntKind.wrap, IntKind.bits, IntKind.signed]
 rw [this]; omega
theorem zol (h b : Int) : 0 ≤ zr9 h b ∧ zr9 h b < 18446744073709551616 := zwz _
theorem zk2 : ∀ (r : Nat) (h n : Int), 0 ≤ h ∧ h < 18446744073709551616 → 0 ≤ zi2 r h n ∧ zi2 r h n < 18446744073709551616
 | 0, _, _, k => k
 | r + 1, h, n, _ => zk2 r _ _ (zol _ _)
theorem ztv (s : Str) : ∀ (h : Int), 0 ≤ h ∧ h < 18446744073709551616 → 0 ≤ znX h s ∧ znX h s < 18446744073709551616 := by
 induction s with
 | nil => exact fun h k => k
 | cons b s ih => exact fun h _ => ih _ (zol _ _)
theorem zpt (l : List Val) : 0 ≤ zkc l ∧ zkc l < 18446744073709551616 := by
 have : ∀ (l : List Val) (h : Int), 0 ≤ h ∧ h < 18446744073709551616 → 0 ≤ l.foldl zor h ∧ l.foldl zor h < 18446744073709551616 := by
  intro l
  induction l with
  | nil => exact fun h k => k
  | cons v l ih => exact fun h _ => ih _ (ztv _ _ (zk2 _ _ _ (zk2 _ _ _ (zol _ _))))
 exact this l _ (by omega)
-- the reference's hash
theorem zjO {kk : Nat} : ∀ (r k : Nat) (h n : Int) (i : Nat), i + r = 8 → r < k → ∃ z, zc1 kk k h n (i : Int) = some (.done (zi2 r h n, z)) := by
 intro r
 induction r with
 | zero =>
   intro k h n i hi hk
   obtain ⟨k, rfl⟩ := zwB hk
   obtain rfl : i = 8 := by omega
   exact ⟨_, rfl⟩
 | succ r ih =>
   intro k h n i hi hk
   obtain ⟨k, rfl⟩ : ∃ m, k = m + 1 := ⟨k - 1, by omega⟩
   obtain ⟨z, hz⟩ := ih k (zr9 h (IntKind.wrap .u8 n)) (zv2 .u64 n 8) (i + 1) (by omega) (by omega)
   refine ⟨z, ?_⟩
   rw [zc1, decide_eq_true (show (i : Int) < 8 by omega), zaN, zbh (by unfold big; omega)]
   exact hz
theorem zhI (kk : Nat) (h n : Int) (hk : 8 < kk) : zd2 kk h n = some (zi2 8 h n) := by
 obtain ⟨z, hz⟩ := zjO (kk := kk) 8 kk h n 0 rfl hk
 unfold zd2
 rw [show ((0 : Nat) : Int) = 0 from rfl] at hz
 rw [hz, zbN]
theorem zjP {c8 : Sl Val} {p : Nat} {v : Val} (hv : c8.l[p]? = some v) {kk : Nat} (hb : v.text.length < big) {k : Nat} {h : Int} (hk : v.text.length < k) :
 zbQ c8 (p : Int) kk k h 0 = some (.done (znX h v.text, (v.text.length : Int))) := by
 have := zkN (L := zbQ c8 (p : Int) kk) (n := v.text.length) (k := k) (fun i => znX h (v.text.take i)) h
  (fun k s => by simp [zbQ, zcW, hv, zai]) (fun k i hi => by
   have ex := List.getElem?_eq_getElem hi
   rw [zbQ, zcW, hv, zai, decide_eq_true (show (i : Int) < (v.text.length : Int) by omega), zaN, zcW, ex, zai, zbh (by omega), List.take_add_one, ex, Option.toList_some]
   show zbQ c8 (p : Int) kk k _ _ = _
   simp only [znX, List.foldl_append, List.foldl_cons, List.foldl_nil]; rfl) rfl hk
 rw [List.take_length] at this; exact this
theorem zma {kk : Nat} (a : Sl Val) (h : zbd a.l < lim) (hk : kk = big := by rfl) : zgm kk a = some (zjq a) := by
 subst hk
 rw [zcV] at h
 have hb1 : big = 1152921504606846976 := rfl
 have hl := zeF a.l
 have := zkN (L := zct a big) (n := a.l.length) (k := big) (fun i => (a.l.take i).foldl zor 14695981039346656037) 14695981039346656037
  (fun k s => by simp [zct]) (fun k i hi => by
   have ex := List.getElem?_eq_getElem hi
   have hx := zky ex
   rw [zct, decide_eq_true (show (i : Int) < (a.l.length : Int) by omega), zaN, zcW, ex, zai]
   rw [show zeT big ((a.l.take i).foldl zor 14695981039346656037) (IntKind.wrap .u8 a.l[i].kind) = some (zr9 ((a.l.take i).foldl zor 14695981039346656037) (IntKind.wrap .u8 a.l[i].kind)) from rfl, zai]
   rw [zhI _ _ _ (by omega), zai, zhI _ _ _ (by omega), zai, zjP ex (by omega) (by omega), zbN, zbh (by omega), List.take_add_one, ex, Option.toList_some, List.foldl_append]; rfl) rfl (by omega)
 rw [List.take_length] at this
 unfold zgm
 rw [this, zbN]; rfl
-- the program's hash
theorem zgX {kk : Nat} : ∀ (r k : Nat) (h n : Int) (i : Nat), i + r = 8 → r < k → ∃ x y, zbL kk k n (i : Int) h = some (.done (x, y, zi2 r h n)) := by
 intro r
 induction r with
 | zero =>
   intro k h n i hi hk
   obtain ⟨k, rfl⟩ := zwB hk
   obtain rfl : i = 8 := by omega
   exact ⟨_, _, rfl⟩
 | succ r ih =>
   intro k h n i hi hk
   obtain ⟨k, rfl⟩ : ∃ m, k = m + 1 := ⟨k - 1, by omega⟩
   obtain ⟨x, y, hz⟩ := ih k (zr9 h (IntKind.wrap .u8 n)) (zv2 .u64 n 8) (i + 1) (by omega) (by omega)
   refine ⟨x, y, ?_⟩
   rw [zbL, decide_eq_true (show (i : Int) < 8 by omega), zaN, zbh (by unfold big; omega)]
   exact hz
theorem zeS (kk : Nat) (n h : Int) (hk : 8 < kk) : zcd kk n h = some (zi2 8 h n) := by
 obtain ⟨x, y, hz⟩ := zgX (kk := kk) 8 kk h n 0 rfl hk
 unfold zcd
 rw [show ((0 : Nat) : Int) = 0 from rfl] at hz
 rw [hz, zbN]
theorem zib {c9 : Sl Val} {c10 c11 : Int} {v : Val} {kk : Nat} (hb : v.text.length < big) : ∀ (k i : Nat) (h : Int), i ≤ v.text.length → v.text.length - i < k →
 zcb c9 c10 c11 (v.text.length : Int) v kk k (i : Int) h = some (.done ((v.text.length : Int), znX h (v.text.drop i))) := by
 intro k
 induction k with
 | zero => intro i h _ hk; omega
 | succ k ih =>
   intro i h hi hk
   rw [zcb, zio]
   by_cases e : i < v.text.length
   · have ex := List.getElem?_eq_getElem e
     rw [decide_eq_true e, zaN, zcW, ex, zai, zbh (by omega), List.drop_eq_getElem_cons e]
     exact ih (i + 1) (zr9 h (v.text[i].toNat : Int)) (by omega) (by omega)
   · obtain rfl : i = v.text.length := by omega
     rw [decide_eq_false e, za5, List.drop_length]; rfl
theorem zic {a : Sl Val} (h : zbd a.l < lim) : ∀ (k i : Nat) (x : Int), i ≤ a.l.length → a.l.length - i < k →
 zcc a (a.l.length : Int) big k (i : Int) x = some (.done ((a.l.length : Int), (a.l.drop i).foldl zor x)) := by
 rw [zcV] at h
 have hb1 : big = 1152921504606846976 := rfl
 have hl := zeF a.l
 intro k
 induction k with
 | zero => intro i h _ hk; omega
 | succ k ih =>
   intro i x hi hk
   rw [zcc, zio]
   by_cases e : i < a.l.length
   · have ex := List.getElem?_eq_getElem e
     have hx := zky ex
     rw [decide_eq_true e, zaN, zcW, ex, zai]
     rw [show zce big (IntKind.wrap .u8 a.l[i].kind) x = some (zr9 x (IntKind.wrap .u8 a.l[i].kind)) from rfl, zai]
     have h1 := zib (c9 := a) (c10 := (a.l.length : Int)) (c11 := (i : Int)) (v := a.l[i]) (kk := big) (by omega) big 0 (zi2 8 (zi2 8 (zr9 x (IntKind.wrap .u8 a.l[i].kind)) (IntKind.wrap .u64 a.l[i].int)) (IntKind.wrap .u64 (a.l[i].text.length : Int))) (Nat.zero_le _) (by omega)
     rw [show ((0 : Nat) : Int) = 0 from rfl] at h1
     rw [zeS _ _ _ (by omega), zai, zeS _ _ _ (by omega), zai, h1, zbN, zbh (by omega), List.drop_eq_getElem_cons e]
     exact ih (i + 1) _ (by omega) (by omega)
   · obtain rfl : i = a.l.length := by omega
     rw [decide_eq_false e, za5, List.drop_length]; rfl
theorem zjQ {kk : Nat} (a : Sl Val) (h : zbd a.l < lim) (hk : kk = big := by rfl) : zer kk a = some (zjq a) := by
 subst hk
 have := zic h big 0 14695981039346656037 (Nat.zero_le _) (by have := zeF a.l; rw [zcV] at h; have : big = 1152921504606846976 := rfl; omega)
 rw [show ((0 : Nat) : Int) = 0 from rfl] at this
 unfold zer
 rw [this, zbN]; rfl
-- keys
theorem zwN {a : zaK} {k : Int} (h : okK a k = false) : (decide (k < 0) || decide ((a.values.l.length : Int) ≤ k)) = true := by
 unfold okK at h
 by_cases h1 : k < 0
 · simp [h1]
 · by_cases h2 : (a.values.l.length : Int) ≤ k
   · simp [h2]
   · rw [decide_eq_true (by omega), decide_eq_true (by omega)] at h; cases h
theorem zwM {a : zaK} {k : Int} (h : okK a k = true) : (decide (k < 0) || decide ((a.values.l.length : Int) ≤ k)) = false ∧ ix a.values.l k = some (zga a k) := by
 unfold okK at h
 simp only [Bool.and_eq_true, decide_eq_true_eq] at h
 refine ⟨by rw [decide_eq_false (by omega), decide_eq_false (by omega)]; rfl, ?_⟩
 have : k.toNat < a.values.l.length := by omega
 unfold ix zga
 rw [if_pos h.1, List.getD_eq_getElem?_getD, List.getElem?_eq_getElem this]; rfl
theorem zpo {L : Nat → List Val → Int → Option (Out (Sl Val × Bool) (List Val × Int))} {a : zaK} {ks : List Int}
 (hend : ∀ k s, L (k + 1) s ks.length = some (.done (s, (ks.length : Int))))
 (hstep : ∀ k (i : Nat) x s, ks[i]? = some x → s.length = i → L (k + 1) s (i : Int) = if okK a x then L k (s ++ [zga a x]) ((i + 1 : Nat) : Int) else some (.ret (Sl.nil, false))) :
 ∀ (k i : Nat) (s : List Val), s.length = i → i ≤ ks.length → ks.length - i < k →
   L k s (i : Int) = if (ks.drop i).all (okK a) then some (.done (s ++ (ks.drop i).map (zga a), (ks.length : Int))) else some (.ret (Sl.nil, false)) := by
 intro k
 induction k with
 | zero => intro i s _ _ hk; omega
 | succ k ih =>
   intro i s hs hi hk
   by_cases e : i < ks.length
   · have ex := List.getElem?_eq_getElem e
     rw [hstep k i _ s ex hs, List.drop_eq_getElem_cons e, List.all_cons]
     by_cases c : okK a ks[i] = true
     · rw [if_pos c, c, Bool.true_and, ih (i + 1) _ (by simp [hs]) (by omega) (by omega), List.map_cons]
       simp
     · have c : okK a ks[i] = false := by simpa using c
       rw [c]; rfl
   · obtain rfl : i = ks.length := by omega
     rw [hend]; simp
theorem zgZ {kk : Nat} (a : zaK) (b : Sl Int) (h : b.l.length < lim) (hk : kk = big := by rfl) : zb9 kk a b = some (zoo a b) := by
 subst hk
 rw [zcV] at h
 have hb1 : big = 1152921504606846976 := rfl
 have := zpo (L := zba b (b.l.length : Int) a big) (a := a) (ks := b.l) (fun k s => by simp [zba]) (fun k i x s hx hs => by
  have hi := (List.getElem?_eq_some_iff.1 hx).1
  rw [zba, decide_eq_true (show (i : Int) < (b.l.length : Int) by omega), zaN, zcW, hx, zai]
  by_cases c : okK a x = true
  · obtain ⟨c1, c2⟩ := zwM c
    rw [c1, za5, c2, zai, okr (by omega), zai, zbh (by omega), if_pos c]
  · have c : okK a x = false := by simpa using c
    rw [zwN c, zaN, c]; rfl) big 0 [] rfl (Nat.zero_le _) (by omega)
 rw [show ((0 : Nat) : Int) = 0 from rfl, List.drop_zero, List.nil_append] at this
 unfold zb9 zoo
 rw [this]
 by_cases c : b.l.all (okK a) = true
 · rw [if_pos c, if_pos c, zbN]
 · rw [if_neg c, if_neg c]; rfl
theorem zns {kk : Nat} (a : zaK) (b : Sl Int) (h : b.l.length < lim) (hk : kk = big := by rfl) : zf0 kk a b = some (zdF a b) := by
 subst hk
 rw [zcV] at h
 have hb1 : big = 1152921504606846976 := rfl
 have := zpo (L := zcO b a big) (a := a) (ks := b.l) (fun k s => by simp [zcO]) (fun k i x s hx hs => by
  have hi := (List.getElem?_eq_some_iff.1 hx).1
  rw [zcO, decide_eq_true (show (i : Int) < (b.l.length : Int) by omega), zaN, zcW, hx, zai]
  by_cases c : okK a x = true
  · obtain ⟨c1, c2⟩ := zwM c
    rw [c1, za5, c2, zai, okr (by omega), zai, zbh (by omega), if_pos c]
  · have c : okK a x = false := by simpa using c
    rw [zwN c, zaN, c]; rfl) big 0 [] rfl (Nat.zero_le _) (by omega)
 rw [show ((0 : Nat) : Int) = 0 from rfl, List.drop_zero, List.nil_append] at this
 unfold zf0 zdF
 rw [this]
 by_cases c : b.l.all (okK a) = true
 · rw [if_pos c, if_pos c, zbN]
 · rw [if_neg c, if_neg c]; rfl
-- buckets
theorem zkV {a : zaK} {b : Sl Int} {c d : Int} (ks : Sl Val × Bool) (hks : ks = zoo a b ∨ ks = zdF a b) (h : b.l.length < lim ∧ zbd (b.l.map (zga a)) + 1 < lim ∧ zgC c) :
 sel (sel (some (-1)) (bnd (okP (zbd (Sl.of [(Val.zero.setInt d)]).l < lim)) fun _ => bnd (okP (((IntKind.wrap .u64 c) = 0) = False)) fun _ => some (IntKind.wrap .i64 ((zjq (Sl.of [(Val.zero.setInt d)])).tmod (IntKind.wrap .u64 c)))) (((!(ks.2)) || (decide (c < 1))) || (decide (d < 0))))
  (sel (some (-1)) (bnd (okP (((ks.1.l).length + 1) * 32 ≤ zhO)) fun _ => bnd (okP (zbd (Sl.of ((ks.1.l) ++ [(Val.zero.setInt d)])).l < lim)) fun _ => bnd (okP (((IntKind.wrap .u64 c) = 0) = False)) fun _ =>
   some (IntKind.wrap .i64 ((zjq (Sl.of ((ks.1.l) ++ [(Val.zero.setInt d)]))).tmod (IntKind.wrap .u64 c)))) (((!(ks.2)) || (decide (c < 1))) || (decide (d < 0)))) (zev ks.1) = some (zbj a b c d) := by
 obtain ⟨h1, h2, h3, h4⟩ := h
 have hb : ∀ l, IntKind.wrap .i64 ((zkc l).tmod c) = (zkc l).tmod c ∨ c < 1 := fun l => by
  by_cases hc : c < 1
  · exact .inr hc
  · have hl := zpt l
    refine .inl (zb0 ?_ ?_)
    · rw [Int.tmod_eq_emod_of_nonneg hl.1]; have := Int.emod_nonneg (zkc l) (show c ≠ 0 by omega); omega
    · rw [Int.tmod_eq_emod_of_nonneg hl.1]; have := Int.emod_lt_of_pos (zkc l) (show 0 < c by omega); omega
 have hcu : 1 ≤ c → IntKind.wrap .u64 c = c := fun h => IntWalk.u64_in c ⟨by omega, by omega⟩
 have hz : zbd [Val.zero.setInt d] = 1 := rfl
 have key : ∀ (l : List Val), l.length + 0 < lim → zbd l + 1 < lim → sel (some (-1)) (bnd (okP ((l.length + 1) * 32 ≤ zhO)) fun _ => bnd (okP (zbd (Sl.of (l ++ [(Val.zero.setInt d)])).l < lim)) fun _ => bnd (okP (((IntKind.wrap .u64 c) = 0) = False)) fun _ =>
  some (IntKind.wrap .i64 ((zjq (Sl.of (l ++ [(Val.zero.setInt d)]))).tmod (IntKind.wrap .u64 c)))) (decide (c < 1) || decide (d < 0)) = some (if decide (1 ≤ c) && decide (0 ≤ d) then (zkc (l ++ [Val.zero.setInt d])).tmod c else -1) := by
  intro l hl hs
  rw [zcV] at hl
  by_cases c1 : c < 1
  · rw [decide_eq_true c1, Bool.true_or, zaN, decide_eq_false (show ¬ 1 ≤ c by omega)]; rfl
  · by_cases d1 : d < 0
    · rw [decide_eq_true d1, Bool.or_true, zaN, decide_eq_false (show ¬ 0 ≤ d by omega), Bool.and_false]; rfl
    · have hsum : zbd (l ++ [Val.zero.setInt d]) = zbd l + 1 := by
       induction l with
       | nil => rfl
       | cons v l ih => rw [List.cons_append, zdk, zdk, ih (by simp at hl; omega) (by rw [zdk] at hs; omega)]; omega
      rw [decide_eq_false c1, decide_eq_false d1, Bool.or_self, za5, okr (by omega), zai, zb5 (by rw [Sl.of_l, hsum]; exact hs), zai, hcu (by omega), zb5 (eq_false (by omega)), zai, decide_eq_true (show 1 ≤ c by omega), decide_eq_true (show 0 ≤ d by omega)]
      rcases hb (l ++ [Val.zero.setInt d]) with e | e
      · show some (IntKind.wrap .i64 ((zkc (l ++ [Val.zero.setInt d])).tmod c)) = _
        rw [e]; rfl
      · exact absurd e c1
 have hlen : (b.l.map (zga a)).length + 0 < lim := by simpa using h1
 by_cases e : b.l.all (okK a) = true
 · have hk := key _ hlen h2
   unfold zbj
   rw [e, Bool.true_and]
   rcases hks with rfl | rfl
   · unfold zoo
     rw [if_pos e]
     show sel _ _ (zev (Sl.out (b.l.map (zga a)))) = _
     cases hl : b.l.map (zga a) with
     | nil =>
       rw [hl] at hk
       rw [Sl.out_nil, zrA, zaN, Bool.not_true, Bool.false_or]
       refine Eq.trans ?_ hk
       congr 1
       rw [okr (by decide), zai]; rfl
     | cons v l =>
       rw [hl] at hk
       show sel _ _ false = _
       rw [za5, Bool.not_true, Bool.false_or, Sl.out_l]
       exact hk
   · unfold zdF
     rw [if_pos e]
     show sel _ _ (zev (Sl.of (b.l.map (zga a)))) = _
     rw [zty, za5, Bool.not_true, Bool.false_or, Sl.of_l]
     exact hk
 · have e' : b.l.all (okK a) = false := by simpa using e
   unfold zbj
   rw [e']
   rcases hks with rfl | rfl
   · unfold zoo; rw [if_neg e]; rfl
   · unfold zdF; rw [if_neg e]; rfl
theorem zgw {kk : Nat} (a : zaK) (b : Sl Int) (c d : Int) (h : b.l.length < lim ∧ zbd (b.l.map (zga a)) + 1 < lim ∧ zgC c) : zcz kk a b c d = some (zbj a b c d) := by
 unfold zcz
 rw [zb5 h.1, zai]
 exact zkV _ (.inl rfl) h
theorem zjR {kk : Nat} (a : zaK) (b : Sl Int) (c d : Int) (h : b.l.length < lim ∧ zbd (b.l.map (zga a)) + 1 < lim ∧ zgC c) : zes kk a b c d = some (zbj a b c d) := by
 unfold zes
 rw [zb5 h.1, zai]
 exact zkV _ (.inr rfl) h
-- few
theorem zku {kk : Nat} (a : Sl Val) (b : Int) (h : a.l.length < big - 1) (hk : kk = big := by rfl) : zfo kk a b = some (zik a b) := by
 subst hk
 unfold zfo zik
 rw [zjL (xs := a.l) (L := zb3 a b big) (fun v => !decide (v.text.length ≤ 300)) false (fun k => by simp [zb3]) (fun k i x hi ex => ?_) (by omega), zoU]
 · generalize a.l.all _ = u; cases u <;> rfl
 · simp only [zb3, zio, decide_eq_true hi, zaN, zcW, ex, zai]
   rw [zbh (by omega)]
   by_cases c : x.text.length ≤ 300
   · rw [decide_eq_true c, decide_eq_false (by omega)]; rfl
   · rw [decide_eq_false c, decide_eq_true (by omega)]; rfl
theorem znu {kk : Nat} (a : Sl zaK) (b : Int) (h : a.l.length < big - 1 ∧ ∀ x ∈ a.l, x.values.l.length < big - 1 ∧ zat x.ann.l + 1 < lim) (hk : kk = big := by rfl) : zhG kk a b = some (zju a b) := by
 subst hk
 obtain ⟨h1, h2⟩ := h
 unfold zhG zju
 by_cases e : (a.l.length : Int) ≤ b
 · rw [decide_eq_false (show ¬ b < (a.l.length : Int) by omega), za5, decide_eq_true e, Bool.true_and]
   rw [zjL (xs := a.l) (L := zcP a big) (fun x => !(zik x.values 6 && zvD 20 (Sl.of [x.ann]))) false (fun k => by simp [zcP]) (fun k i x hi ex => ?_) (by omega), zoU]
   · generalize a.l.all _ = u; cases u <;> rfl
   · obtain ⟨h3, h4⟩ := h2 x (List.mem_of_getElem? ex)
     simp only [zcP, zio, decide_eq_true hi, zaN, zcW, ex, zai]
     rw [zb5 h3, zai, zbh (by omega)]
     have hs : zcE (Sl.of [x.ann]).l < lim := by
      rw [Sl.of_l]
      have : zcE [x.ann] ≤ zat x.ann.l + 1 := by cases x.ann; simp [zcE]
      omega
     cases zik x.values 6
     · rfl
     · rw [Bool.not_true, Bool.not_false, zaN, zb5 ⟨by omega, by omega, hs⟩, zai]
       cases zvD 20 (Sl.of [x.ann]) <;> rfl
 · rw [decide_eq_true (show b < (a.l.length : Int) by omega), zaN, decide_eq_false e, Bool.false_and]
theorem znt {kk : Nat} (a : Sl zaK) (b : Int) (h : a.l.length < big - 1 ∧ ∀ x ∈ a.l, x.values.l.length < big - 1 ∧ zat x.ann.l + 1 < lim) : zhF kk a b = some (zju a b) := by
 unfold zhF
 rw [zb5 h, zai]
-- sameness
theorem zgv {kk : Nat} (a b : Sl Val) (h : a.l.length < big - 1 ∧ b.l.length < big - 1) (hk : kk = big := by rfl) : zcy kk a b = some (zgg a b) := by
 subst hk
 obtain ⟨j, hj⟩ := zrD (L := zbG a b big) (xs := a.l) (ys := b.l) (f := zco) (fun x y R => sel (some (.ret (zco x y))) R (zco x y != 0)) (fun k i => rfl) (fun i x y R _ _ => by
  rw [zve]) (by omega) big 0 (Nat.zero_le _) (Nat.zero_le _) (by omega)
 rw [show ((0 : Nat) : Int) = 0 from rfl, List.drop_zero, List.drop_zero] at hj
 unfold zcy zgg
 rw [hj, zoJ]
 by_cases e : zcM zco a.l b.l = 0
 · rw [if_pos e, zt3 e, zbN]
   by_cases l1 : a.l.length = b.l.length
   · rw [l1]; simp [zcX, sel]
   · have : ((a.l.length : Int) == (b.l.length : Int)) = false := by simp; omega
     rw [this, za5]
     unfold zcX sgn
     by_cases l2 : a.l.length < b.l.length
     · rw [decide_eq_true (show (a.l.length : Int) < b.l.length by omega), if_pos rfl, if_pos (by omega)]
     · rw [decide_eq_false (show ¬ (a.l.length : Int) < b.l.length by omega), if_neg (by simp), if_neg (by omega), if_pos (by omega)]
 · rw [if_neg e, zmJ e]; rfl
theorem zl9 {kk : Nat} (a b : Sl Val) (h : a.l.length < big - 1 ∧ b.l.length < big - 1) : zgl kk a b = some (zf7 a b) := by
 unfold zgl
 rw [zb5 h, zai]; rfl
theorem zkz : ∀ (xs ys : List zaK) (i : Nat) (x y : zaK), xs[i]? = some x → ys[i]? = some y → zja (xs.drop i) (ys.drop i) = (zla x y && zja (xs.drop (i + 1)) (ys.drop (i + 1)))
 | [], _, i, _, _, h, _ => by simp at h
 | _ :: _, [], i, _, _, _, h => by simp at h
 | x :: xs, y :: ys, 0, _, _, h, k => by simp at h k; subst h k; rfl
 | x :: xs, y :: ys, i + 1, _, _, h, k => zkz xs ys i _ _ (by simpa using h) (by simpa using k)
theorem zjN {a b : Sl zaK} (hl : a.l.length = b.l.length) (h1 : a.l.length < big - 1) (h2 : ∀ x ∈ a.l, x.values.l.length < big - 1 ∧ zat x.ann.l < lim) (h3 : ∀ x ∈ b.l, x.values.l.length < big - 1 ∧ zat x.ann.l < lim) :
 ∀ (k i : Nat), i ≤ a.l.length → a.l.length - i < k → zc0 a b big k (i : Int) = if zja (a.l.drop i) (b.l.drop i) then some (.done (a.l.length : Int)) else some (.ret false) := by
 have hb1 : big = 1152921504606846976 := rfl
 intro k
 induction k with
 | zero => intro i _ hk; omega
 | succ k ih =>
   intro i hi hk
   rw [zc0, zio]
   by_cases e : i < a.l.length
   · have ex := List.getElem?_eq_getElem e
     have ey := List.getElem?_eq_getElem (show i < b.l.length by omega)
     have p1 := h2 _ (List.mem_of_getElem? ex)
     have p2 := h3 _ (List.mem_of_getElem? ey)
     have hlim := zcV
     rw [decide_eq_true e, zaN, zcW, ex, zai, zcW, ey, zai, zb5 ⟨p1.1, p2.1⟩, zai, zb5 (by omega), zai, zbh (by omega), ih (i + 1) (by omega) (by omega), zkz _ _ _ _ _ ex ey]
     unfold zla
     cases zf7 a.l[i].values b.l[i].values <;> cases zkA a.l[i].ann b.l[i].ann <;> rfl
   · obtain rfl : i = a.l.length := by omega
     rw [decide_eq_false e, za5, List.drop_length]; rfl
theorem zl6 {kk : Nat} (a b : Sl zaK) (h : a.l.length < big - 1 ∧ (∀ x ∈ a.l, x.values.l.length < big - 1 ∧ zat x.ann.l < lim) ∧ (∀ x ∈ b.l, x.values.l.length < big - 1 ∧ zat x.ann.l < lim)) (hk : kk = big := by rfl) : zgj kk a b = some (zgA a b) := by
 subst hk
 obtain ⟨h1, h2, h3⟩ := h
 unfold zgj zgA
 by_cases l : a.l.length = b.l.length
 · have := zjN l h1 h2 h3 big 0 (Nat.zero_le _) (by omega)
   rw [show ((0 : Nat) : Int) = 0 from rfl, List.drop_zero, List.drop_zero] at this
   rw [this]
   have e1 : ((a.l.length : Int) != (b.l.length : Int)) = false := by rw [l]; simp
   have e2 : (a.l.length == b.l.length) = true := by simp [l]
   rw [e1, za5, e2, Bool.true_and]
   cases zja a.l b.l <;> rfl
 · have e1 : ((a.l.length : Int) != (b.l.length : Int)) = true := by simp; omega
   have e2 : (a.l.length == b.l.length) = false := by simp [l]
   rw [e1, zaN, e2, Bool.false_and]
-- the law
theorem zog {a b : Int} (h : orI a b = 0) : a = 0 ∧ b = 0 := by
 unfold orI at h
 by_cases c : a = 0
 · rw [if_pos c] at h; exact ⟨c, h⟩
 · rw [if_neg c] at h; exact absurd h c
theorem zqR {x y : Val} (h : zco x y = 0) : x = y := by
 unfold zco at h
 obtain ⟨h1, h2⟩ := zog h
 obtain ⟨h2, h3⟩ := zog h2
 have e1 := zpU.1 h1
 have e2 := zpU.1 h2
 have e3 : x.text = y.text := Classical.byContradiction fun k => zvV k h3
 cases x; cases y
 simp only at e1 e2 e3
 subst e1 e2 e3; rfl
theorem zjE : ∀ {l m : List Val}, zjF zco l m = 0 → l = m
 | [], [], _ => rfl
 | [], _ :: _, h => by simp [zjF] at h
 | _ :: _, [], h => by simp [zjF] at h
 | x :: l, y :: m, h => by
   simp only [zjF] at h
   obtain ⟨h1, h2⟩ := zog h
   rw [zqR h1, zjE h2]
theorem zqd {l m : Sl Val} (h : zgA (Sl.of [zaK.zero.setValues l]) (Sl.of [zaK.zero.setValues m]) = true) : l.l = m.l := by
 unfold zgA at h
 simp only [Sl.of_l, List.length_cons, List.length_nil, beq_self_eq_true, Bool.true_and, zja, Bool.and_true, zla, Bool.and_eq_true] at h
 have h1 := h.1
 unfold zf7 zgg at h1
 simp only [zaK.setValues_values, beq_iff_eq] at h1
 exact zjE h1
theorem zqy {a : zaK} (h : ∀ v ∈ a.values.l, v.text.length ≤ 300) (k : Int) : (zga a k).text.length ≤ 300 := by
 unfold zga
 rw [List.getD_eq_getElem?_getD]
 cases e : a.values.l[k.toNat]? with
 | none => exact Nat.zero_le _
 | some v => exact h v (List.mem_of_getElem? e)
theorem zrx {a : zaK} (h : ∀ v ∈ a.values.l, v.text.length ≤ 300) (ks : List Int) : zbd (ks.map (zga a)) ≤ ks.length * 301 := by
 induction ks with
 | nil => exact Nat.zero_le _
 | cons k ks ih => have := zqy h k; rw [List.map_cons, zdk, List.length_cons]; omega
theorem zsO (a : zaK) (c : Sl Int) (d e : Int) : zbj a c d e < (if d < 0 then 0 else d) := by
 unfold zbj
 by_cases k : (c.l.all (okK a) && (decide (1 ≤ d) && decide (0 ≤ e))) = true
 · rw [if_pos k]
   simp only [Bool.and_eq_true, decide_eq_true_eq] at k
   have hl := zpt (c.l.map (zga a) ++ [Val.zero.setInt e])
   rw [if_neg (by omega), Int.tmod_eq_emod_of_nonneg hl.1]
   exact Int.emod_lt_of_pos _ (by omega)
 · rw [if_neg k]; split <;> omega
theorem zpp {a : zaK} {c : Sl Int} (h : zev (zdF a c).1 = true) : (zdF a c).2 = false := by
 unfold zdF at h ⊢
 split
 · rename_i k; rw [if_pos k] at h; cases h
 · rfl
theorem zsc {a : zaK} {c : Sl Int} (h : (zdF a c).2 = true) : c.l.all (okK a) = true ∧ (zdF a c).1.l = c.l.map (zga a) := by
 unfold zdF at h ⊢
 split
 · rename_i k; exact ⟨k, rfl⟩
 · rename_i k; rw [if_neg k] at h; cases h
theorem zsq {a b : zaK} (h : zju (Sl.of [a, b]) 2 = true) : (∀ v ∈ a.values.l, v.text.length ≤ 300) ∧ a.values.l.length ≤ 6 ∧ (∀ v ∈ b.values.l, v.text.length ≤ 300) ∧ b.values.l.length ≤ 6 := by
 unfold zju at h
 simp only [Sl.of_l, List.all_cons, List.all_nil, Bool.and_true, Bool.and_eq_true, zik, List.all_eq_true, decide_eq_true_eq] at h
 obtain ⟨_, ⟨⟨h1, h2⟩, _⟩, ⟨h3, h4⟩, _⟩ := h
 exact ⟨h1, by omega, h3, by omega⟩
theorem zeD {kk : Nat} (a b : zaK) (c : Sl Int) (d e : Int) (h : zpm a b c d e) : zbK kk a b c d e = some (zrw a b c d e) := by
 obtain ⟨⟨a1, a2⟩, ⟨b1, b2⟩, hc, hd, he⟩ := h
 have hlim := zcV
 have hb1 : big = 1152921504606846976 := rfl
 have la := zeF a.values.l
 have lb := zeF b.values.l
 unfold zbK zbo znh zrw
 rw [Bool.not_true, Bool.not_false, zaN, zb5 ⟨by simp; omega, fun x hx => by
  simp only [Sl.of_l, List.mem_cons, List.not_mem_nil, or_false] at hx
  rcases hx with rfl | rfl
  · exact ⟨by omega, a2⟩
  · exact ⟨by omega, b2⟩⟩, zai, zai]
 cases hq : (!(zju (Sl.of [a, b]) 2) || decide (4 < (c.l.length : Int))) with
 | true => rfl
 | false =>
   rw [za5]
   simp only [Bool.or_eq_false_iff, Bool.not_eq_false', decide_eq_false_iff_not] at hq
   obtain ⟨hf, hn⟩ := hq
   obtain ⟨p1, p2, p3, p4⟩ := zsq hf
   have sa := zrx p1 c.l
   have sb := zrx p3 c.l
   have ba : c.l.length < lim ∧ zbd (c.l.map (zga a)) + 1 < lim ∧ zgC d := ⟨hc, by omega, hd⟩
   have bb : c.l.length < lim ∧ zbd (c.l.map (zga b)) + 1 < lim ∧ zgC d := ⟨hc, by omega, hd⟩
   have hlt := zsO a c d e
   rw [zb5 ba, zai, zai, zb5 bb]
   have e1 : ((zbj a c d e) != (zbj a c d e) || decide ((if d < 0 then 0 else d) ≤ zbj a c d e)) = false := by
    rw [decide_eq_false (by omega)]; simp
   rw [e1, za5, zb5 hc, zai]
   simp only [zai]
   cases na : zev (zdF a c).1 with
   | true =>
     rw [zaN]
     have := zpp na
     cases zev (zdF b c).1
     · rw [za5, this, Bool.false_and, za5]
     · rw [zaN, this, Bool.false_and, za5]
   | false =>
     rw [za5]
     cases nb : zev (zdF b c).1 with
     | true => rw [zaN, zpp nb, Bool.and_false, za5]
     | false =>
       rw [za5]
       cases k : ((zdF a c).2 && (zdF b c).2) with
       | false => rfl
       | true =>
         simp only [Bool.and_eq_true] at k
         obtain ⟨ka, ra⟩ := zsc k.1
         obtain ⟨kb, rb⟩ := zsc k.2
         have side : ∀ (x : zaK), ∀ y ∈ (Sl.of [zaK.zero.setValues (Sl.of (c.l.map (zga x)))]).l, y.values.l.length < big - 1 ∧ zat y.ann.l < lim := fun x y hy => by
          simp only [Sl.of_l, List.mem_singleton] at hy
          subst hy
          simp only [zaK.setValues_values, zaK.setValues_ann, Sl.of_l, List.length_map]
          exact ⟨by omega, by decide⟩
         rw [zaN, ra, rb, zb5 ⟨by simp; omega, side a, side b⟩, zai]
         cases s : zgA (Sl.of [zaK.zero.setValues (Sl.of (c.l.map (zga a)))]) (Sl.of [zaK.zero.setValues (Sl.of (c.l.map (zga b)))]) with
         | false => rfl
         | true =>
           have hk : c.l.map (zga a) = c.l.map (zga b) := zqd s
           have : zbj b c d e = zbj a c d e := by unfold zbj; rw [ka, kb, hk]
           rw [Bool.not_true, Bool.not_false, zaN, this]; simp
end Go.Ev
