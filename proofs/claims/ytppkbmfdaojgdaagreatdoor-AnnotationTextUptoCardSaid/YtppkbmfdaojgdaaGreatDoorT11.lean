/- AnnotationText: for every annotation and string that hold together at most 1048576 values and letters, the law returns true. Condition: that bound (the Upto form). -/
import Derived.Test.YtppkbmfdaojgdaaGreatDoorT9
import Derived.Test.YtppkbmfdaojgdaaGreatDoorT10
set_option linter.all false
set_option maxRecDepth 100000
set_option maxHeartbeats 4000000
set_option linter.unusedSimpArgs false
set_option linter.unusedVariables false
namespace Go.Proofs.Tryz
open Go.Ev
theorem znB {kk : Nat} {a : Str} {b : Str} {r : Bool} (h : zeg kk a b = some r) : Ev cfg 170 [(.str a), (.str b)] (.bool r) := by
 unfold zeg at h
 have E := evT
 rcases zac h with ⟨h1_, h⟩ | ⟨h1_, h⟩
 obtain ⟨y1, h2_, h⟩ := zaa h
 have h2_ : zhq prog none (some (.int .i64 (b.length : Int))) none (.str a) .str = pure (.str y1) := zkr h2_ prog
 rotate_left
 rotate_left
 all_goals
  obtain rfl := Option.some.inj h
  refine E.s fun n x => ?_
  simp -dsimp -implicitDefEqProofs only [go_sem, func170, f170, *, simprocAttr]
theorem zgr (a : Str) (b : Str) : Ev cfg 170 [(.str a), (.str b)] (.bool (zj7 a b)) := znB (zlJ 0 a b)
theorem zs8 {kk : Nat} {a : Str} {b : Str} {r : Bool} (h : zi2 kk a b = some r) : Ev cfg 199 [(.str a), (.str b)] (.bool r) := by
 unfold zi2 at h
 have E := evT
 have E := E.and (zgr a b)
 obtain rfl := Option.some.inj h
 refine E.s fun n x => ?_
 simp -dsimp -implicitDefEqProofs only [go_sem, func199, f199, *, simprocAttr]
theorem zmx (a : Str) (b : Str) : Ev cfg 199 [(.str a), (.str b)] (.bool (zj7 a b)) := zs8 (zqt 0 a b)
theorem znC {kk : Nat} {a : Str} {b : Str} {r : Str × Bool} (h : zeh kk a b = some r) : Ev cfg 144 [(.str a), (.str b)] (.tup [(.str r.1), (.bool r.2)]) := by
 unfold zeh at h
 have E := evT
 have E := E.and (zgr a b)
 rcases zac h with ⟨h1_, h⟩ | ⟨h1_, h⟩
 have b2_ := zaq h1_
 rotate_left
 have b3_ := zam h1_
 obtain ⟨y1, h4_, h⟩ := zaa h
 have h4_ : zhq prog (some (.int .i64 (b.length : Int))) none none (.str a) .str = pure (.str y1) := zkr h4_ prog
 rotate_left
 all_goals
  obtain rfl := Option.some.inj h
  refine E.s fun n x => ?_
  simp -dsimp -implicitDefEqProofs only [go_sem, func144, f144, *, simprocAttr]
theorem znV (a : Str) (b : Str) : Ev cfg 144 [(.str a), (.str b)] (.tup [(.str ((zgV a b).1)), (.bool ((zgV a b).2))]) := znC (zlK 0 a b)
theorem zs9 {kk : Nat} {a : Str} {b : Str} {r : Str × Bool} (h : zi3 kk a b = some r) : Ev cfg 119 [(.str a), (.str b)] (.tup [(.str r.1), (.bool r.2)]) := by
 unfold zi3 at h
 have E := evT
 have E := E.and (znV a b)
 obtain rfl := Option.some.inj h
 refine E.s fun n x => ?_
 simp -dsimp -implicitDefEqProofs only [go_sem, func119, f119, *, simprocAttr]
theorem zmy (a : Str) (b : Str) : Ev cfg 119 [(.str a), (.str b)] (.tup [(.str ((zgV a b).1)), (.bool ((zgV a b).2))]) := zs9 (zqu 0 a b)
theorem zmD {kk : Nat} {a : Str} {b : Str} {r : Str} (h : zdQ kk a b = some r) : Ev cfg 231 [(.str a), (.str b)] (.str r) := by
 unfold zdQ at h
 have E := evT
 have E := E.and (zgr a b)
 rcases zac h with ⟨h1_, h⟩ | ⟨h1_, h⟩
 obtain ⟨y1, h2_, h⟩ := zaa h
 have h2_ : zhq prog (some (.int .i64 (b.length : Int))) none none (.str a) .str = pure (.str y1) := zkr h2_ prog
 rotate_left
 rotate_left
 all_goals
  obtain rfl := Option.some.inj h
  refine E.s fun n x => ?_
  simp -dsimp -implicitDefEqProofs only [go_sem, func231, f231, *, simprocAttr]
theorem zmP (a : Str) (b : Str) : Ev cfg 231 [(.str a), (.str b)] (.str (zkc a b)) := zmD (zk7 0 a b)
theorem zr8 {kk : Nat} {a : Str} {b : Str} {r : Str} (h : ziE kk a b = some r) : Ev cfg 226 [(.str a), (.str b)] (.str r) := by
 unfold ziE at h
 have E := evT
 have E := E.and (zmP a b)
 obtain rfl := Option.some.inj h
 refine E.s fun n x => ?_
 simp -dsimp -implicitDefEqProofs only [go_sem, func226, f226, *, simprocAttr]
theorem zsm (a : Str) (b : Str) : Ev cfg 226 [(.str a), (.str b)] (.str (zkc a b)) := zr8 (zpF 0 a b)
def zfi (c5 : Str) (c6 : Str) (c7 : Int) (c8 : Int) (c10 : Str) (c12 : Str) (K : Ex → St → Option Res) (R : Option Res) : Out (Str) (Bool × Nat × Nat) → Prop
 | .ret r => ∀ (e : Env) (m : Mem), e 4 = (.str r) → K .ret ⟨e, m⟩ = R
 | .done q => ∀ (e : Env) (m : Mem), e 0 = (.str c5) → e 1 = (.str c6) → e 5 = (.int .i64 c7) → e 7 = (.bool (q.1)) → zyC (e 11) m 11 c10 q.2.1 → K (.exit 2) ⟨e, m⟩ = R
noncomputable def zpY : Code := zbq f173 [1, 0, 1, 0, 0, 1, 1, 0, 1, 1, 0, 1, 0, 0]
theorem zjJ {c5 : Str} {c6 : Str} {c7 : Int} {c8 : Int} {c10 : Str} {c12 : Str} {kk : Nat} : ∀ {k : Nat} {s9 : Bool} {s11 : Nat} {s13 : Nat} {out : Out (Str) (Bool × Nat × Nat)}, zc7 c5 c6 c7 c8 c10 c12 kk k s9 s11 s13 = some out → ∃ N, ∀ n, N ≤ n → ∀ k, N ≤ k → ∀ (e : Env) (m : Mem), e 0 = (.str c5) → e 1 = (.str c6) → e 5 = (.int .i64 c7) → e 6 = (.int .i32 c8) → e 7 = (.bool (s9)) → zyC (e 11) m 11 c10 s11 → zyC (e 17) m 17 c12 s13 → ∀ (K : Ex → St → Option Res) (R : Option Res), zfi c5 c6 c7 c8 c10 c12 K R out → zcj (zbH cfg (dfn cfg n) n zpY) K k ⟨e, m⟩ = R := by
 intro k
 induction k with
 | zero => intro s9 s11 s13 out h; cases h
 | succ k ih => ?_
 intro s9 s11 s13 out h
 have ih := fun x0 x1 x2 {out} => @ih x0 x1 x2 out
 unfold zc7 at h
 have E := evT
 rcases zac h with ⟨h1_, h⟩ | ⟨h1_, h⟩
 have p2_ := zNE h1_
 rcases Bool.eq_false_or_eq_true ((s9)) with h3_ | h3_
 rotate_left
 rotate_left
 have p4_ := zNF h1_
 rotate_left
 all_goals
  first | (obtain rfl := Option.some.inj h; refine E.l fun n k x => ?_) | refine E.c (ih _ _ _ h) fun n k x I => ?_
  intro e m i0 i1 i2 i3 i4 i5 i6 K R hK
  obtain ⟨_, _, _⟩ := i5
  obtain ⟨_, _, _⟩ := i6
  rw [zau]
  (conv => lhs; arg 4; whnf)
  first | (simp -dsimp -implicitDefEqProofs only [go_sem, *, simprocAttr]; refine zah (I.1 _ _ ?_ ?_ ?_ ?_ ?_ ?_ ?_ _ _ hK); (iterate 7 (simp -dsimp -implicitDefEqProofs only [go_sem, *, simprocAttr]))) | (simp -dsimp -implicitDefEqProofs only [go_sem, *, simprocAttr]; simp only [zfi] at hK; refine hK _ _ ?_ ?_ ?_ ?_ ?_; (iterate 5 (simp -dsimp -implicitDefEqProofs only [go_sem, *, simprocAttr])))
def zcU (c1 : Str) (c2 : Str) (c3 : Str) (K : Ex → St → Option Res) (R : Option Res) : Out (Str) (Nat) → Prop
 | .ret r => ∀ (e : Env) (m : Mem), e 4 = (.str r) → K .ret ⟨e, m⟩ = R
 | .done q => ∀ (e : Env) (m : Mem), K (.exit 0) ⟨e, m⟩ = R
noncomputable def zpZ : Code := zbq f173 [1, 0, 1, 0, 0]
theorem zjK {c1 : Str} {c2 : Str} {c3 : Str} {kk : Nat} : ∀ {k : Nat} {s4 : Nat} {out : Out (Str) (Nat)}, zc8 c1 c2 c3 kk k s4 = some out → ∃ N, ∀ n, N ≤ n → ∀ k, N ≤ k → ∀ (e : Env) (m : Mem), e 0 = (.str c1) → e 1 = (.str c2) → zyC (e 11) m 11 c3 s4 → ∀ (K : Ex → St → Option Res) (R : Option Res), zcU c1 c2 c3 K R out → zcj (zbH cfg (dfn cfg n) n zpZ) K k ⟨e, m⟩ = R := by
 intro k
 induction k with
 | zero => intro s4 out h; cases h
 | succ k ih => ?_
 intro s4 out h
 have ih := fun x0 {out} => @ih x0 out
 unfold zc8 at h
 have E := evT
 rcases zac h with ⟨h5_, h⟩ | ⟨h5_, h⟩
 have p6_ := zNE h5_
 rcases zaz h with ⟨r9_, o8_, h⟩ | ⟨q14, o8_, h⟩
 obtain ⟨_, l7_, E⟩ := E.lp (zjJ o8_)
 rotate_left
 obtain ⟨_, l10_, E⟩ := E.lp (zjJ o8_)
 rcases zac h with ⟨h11_, h⟩ | ⟨h11_, h⟩
 have b12_ := zaq h11_
 obtain ⟨y15, h13_, h⟩ := zaa h
 have h13_ : zhq prog (some (.int .i64 (s4 : Int))) none none (.str c1) .str = pure (.str y15) := zkr h13_ prog
 rotate_left
 have b14_ := zam h11_
 rotate_left
 have p15_ := zNF h5_
 rotate_left
 all_goals
  first | (obtain rfl := Option.some.inj h; refine E.l fun n k x => ?_) | refine E.c (ih _ h) fun n k x I => ?_
  intro e m i0 i1 i2 K R hK
  obtain ⟨_, _, _⟩ := i2
  rw [zau]
  (conv => lhs; arg 4; whnf)
  first | (have := l7_; simp -dsimp -implicitDefEqProofs only [go_sem, *, simprocAttr]; refine zah (l7_.1 n (by omega) _ _ ?_ ?_ ?_ ?_ ?_ ?_ ?_ _ _ ?_); (iterate 7 (simp -dsimp -implicitDefEqProofs only [go_sem, *, simprocAttr])); simp only [zfi]; intro e m i0; (try simp -dsimp -implicitDefEqProofs only [go_sem, *, simprocAttr]); simp only [zcU] at hK; refine hK _ _ ?_; simp -dsimp -implicitDefEqProofs only [go_sem, *, simprocAttr]) | (have := l10_; simp -dsimp -implicitDefEqProofs only [go_sem, *, simprocAttr]; refine zah (l10_.1 n (by omega) _ _ ?_ ?_ ?_ ?_ ?_ ?_ ?_ _ _ ?_); (iterate 7 (simp -dsimp -implicitDefEqProofs only [go_sem, *, simprocAttr])); simp only [zfi]; intro e m i0 i1 i2 i3 i4; obtain ⟨_, _, _⟩ := i4; (first | ((try simp -dsimp -implicitDefEqProofs only [go_sem, *, simprocAttr]); simp only [zcU] at hK; refine hK _ _ ?_; simp -dsimp -implicitDefEqProofs only [go_sem, *, simprocAttr]) | ((try simp -dsimp -implicitDefEqProofs only [go_sem, *, simprocAttr]); refine zah (I.1 _ _ ?_ ?_ ?_ _ _ hK); (iterate 3 (simp -dsimp -implicitDefEqProofs only [go_sem, *, simprocAttr]))))) | ((try simp -dsimp -implicitDefEqProofs only [go_sem, *, simprocAttr]); simp only [zcU] at hK; refine hK _ _)
theorem zsc {kk : Nat} {a : Str} {b : Str} {r : Str} (h : zgM kk a b = some r) : Ev cfg 173 [(.str a), (.str b)] (.str r) := by
 unfold zgM at h
 have E := evT
 rcases zaz h with ⟨r18_, o17_, h⟩ | ⟨q16, o17_, h⟩
 obtain ⟨_, l16_, E⟩ := E.lp (zjK o17_)
 rotate_left
 obtain ⟨_, l19_, E⟩ := E.lp (zjK o17_)
 rotate_left
 all_goals
  obtain rfl := Option.some.inj h
  refine E.s fun n x => ?_
  first | (have := l16_; simp -dsimp -implicitDefEqProofs only [go_sem, func173, f173, *, simprocAttr]; refine zah (l16_.1 n (by omega) _ _ ?_ ?_ ?_ _ _ ?_); (iterate 3 (simp -dsimp -implicitDefEqProofs only [go_sem, *, simprocAttr])); simp only [zcU]; intro e m i0; simp -dsimp -implicitDefEqProofs only [go_sem, func173, f173, *, simprocAttr]) | (have := l19_; simp -dsimp -implicitDefEqProofs only [go_sem, func173, f173, *, simprocAttr]; refine zah (l19_.1 n (by omega) _ _ ?_ ?_ ?_ _ _ ?_); (iterate 3 (simp -dsimp -implicitDefEqProofs only [go_sem, *, simprocAttr])); simp only [zcU]; intro e m; simp -dsimp -implicitDefEqProofs only [go_sem, func173, f173, *, simprocAttr])
theorem zsq (a : Str) (b : Str) (h : a.length < lim ∧ b.length < lim ∧ zH9 b = true) : Ev cfg 173 [(.str a), (.str b)] (.str (zpg a b)) := zsc (zpM (kk := big) a b h)
theorem zoq {kk : Nat} {a : zab} {b : Str} {r : Bool × zab} (h : zgT kk a b = some r) : ∃ N, ∀ n, N ≤ n → ∀ g0_, dfn cfg n 76 [(.ptr (.arg 0) g0_ 0 0), (.str b)] [.rows g0_ false true 1 [zae a]] = some ⟨(.bool r.1), [.rows g0_ false true 1 [zae r.2]], []⟩ := by
 unfold zgT at h
 have E := evT
 have E := E.and (zmy a.rest b)
 obtain rfl := Option.some.inj h
 refine E.s fun n x g0_ => ?_
 simp -dsimp -implicitDefEqProofs only [go_sem, func76, f76, *, simprocAttr] <;> simp -dsimp -implicitDefEqProofs only [go_sem, func76, f76, zgf, *, simprocAttr]
theorem zay (a : zab) (b : Str) : ∃ N, ∀ n, N ≤ n → ∀ g0_, dfn cfg n 76 [(.ptr (.arg 0) g0_ 0 0), (.str b)] [.rows g0_ false true 1 [zae a]] = some ⟨(.bool ((zaQ a b).1)), [.rows g0_ false true 1 [zae ((zaQ a b).2)]], []⟩ := zoq (zmu 0 a b)
theorem zpw {kk : Nat} {a : zab} {b : Str} {r : Str × zab} (h : zfl kk a b = some r) : ∃ N, ∀ n, N ≤ n → ∀ g0_, dfn cfg n 146 [(.ptr (.arg 0) g0_ 0 0), (.str b)] [.rows g0_ false true 1 [zae a]] = some ⟨(.str r.1), [.rows g0_ false true 1 [zae r.2]], []⟩ := by
 unfold zfl at h
 have E := evT
 obtain ⟨_, h1_, h⟩ := zaa h
 have E := E.and (zsq a.rest b (zag h1_))
 obtain ⟨y2, h2_, h⟩ := zaa h
 have h2_ : zhq prog none (some (.int .i64 (IntKind.wrap .i64 ((a.rest.length : Int) - ((zpg a.rest b).length : Int))))) none (.str a.rest) .str = pure (.str y2) := zkr h2_ prog
 obtain rfl := Option.some.inj h
 refine E.s fun n x g0_ => ?_
 simp -dsimp -implicitDefEqProofs only [go_sem, func146, f146, *, simprocAttr] <;> simp -dsimp -implicitDefEqProofs only [go_sem, func146, f146, zgf, *, simprocAttr]
theorem zhi (a : zab) (b : Str) (h : a.rest.length < lim ∧ b.length < lim ∧ zH9 b = true) : ∃ N, ∀ n, N ≤ n → ∀ g0_, dfn cfg n 146 [(.ptr (.arg 0) g0_ 0 0), (.str b)] [.rows g0_ false true 1 [zae a]] = some ⟨(.str ((zl0 a b).1)), [.rows g0_ false true 1 [zae ((zl0 a b).2)]], []⟩ := zpw (zmK 0 a b h)
theorem zmG {kk : Nat} {a : zab} {r : Int × Bool × zab} (h : zdT kk a = some r) : ∃ N, ∀ n, N ≤ n → ∀ g0_, dfn cfg n 120 [(.ptr (.arg 0) g0_ 0 0)] [.rows g0_ false true 1 [zae a]] = some ⟨(.tup [(.int .i64 r.1), (.bool r.2.1)]), [.rows g0_ false true 1 [zae r.2.2]], []⟩ := by
 unfold zdT at h
 have E := evT
 obtain ⟨_, h1_, h⟩ := zaa h
 have E := E.and (zhi a [48, 49, 50, 51, 52, 53, 54, 55, 56, 57] (zag h1_))
 obtain ⟨_, h2_, h⟩ := zaa h
 have e3_ := ztO ztR ((zl0 a [48, 49, 50, 51, 52, 53, 54, 55, 56, 57]).1) 10 64 (zag h2_)
 obtain rfl := Option.some.inj h
 refine E.s fun n x g0_ => ?_
 simp -dsimp -implicitDefEqProofs only [go_sem, func120, f120, *, simprocAttr] <;> simp -dsimp -implicitDefEqProofs only [go_sem, func120, f120, zgf, *, simprocAttr]
theorem ziy (a : zab) (h : a.rest.length < lim) : ∃ N, ∀ n, N ≤ n → ∀ g0_, dfn cfg n 120 [(.ptr (.arg 0) g0_ 0 0)] [.rows g0_ false true 1 [zae a]] = some ⟨(.tup [(.int .i64 ((zk1 a).1)), (.bool ((zk1 a).2.1))]), [.rows g0_ false true 1 [zae ((zk1 a).2.2)]], []⟩ := zmG (zk8 0 a h)
theorem zvB {kk : Nat} {a : Int} {r : Bool} (h : zkq kk a = some r) : Ev cfg 195 [(.int .i32 a)] (.bool r) := by
 unfold zkq at h
 have E := evT
 rcases Bool.eq_false_or_eq_true ((decide (48 ≤ a))) with h1_ | h1_
 rotate_left
 rotate_left
 all_goals
  obtain rfl := Option.some.inj h
  refine E.s fun n x => ?_
  simp -dsimp -implicitDefEqProofs only [go_sem, func195, f195, *, simprocAttr]
theorem zvT (a : Int) : Ev cfg 195 [(.int .i32 a)] (.bool (zxU a)) := zvB (zsh 0 a)
theorem zvA {kk : Nat} {a : Int} {r : Bool} (h : ziq kk a = some r) : ∃ N, ∀ n, N ≤ n → ∀ g0_, dfn cfg n 197 [(.int .i32 a), (.ptr (.arg 0) g0_ 0 0)] [.rows g0_ false false 1 [[(.fn (.func 195) [] [])]]] = some ⟨(.bool r), [.rows g0_ false false 1 [[(.fn (.func 195) [] [])]]], []⟩ := by
 unfold ziq at h
 have E := evT
 have E := E.and (zvT a)
 obtain rfl := Option.some.inj h
 refine E.s fun n x g0_ => ?_
 simp -dsimp -implicitDefEqProofs only [go_sem, func197, f197, *, simprocAttr]
def zbA (c1 : Bool) (c2 : Str) (g0_ : Nat) (K : Ex → St → Option Res) (R : Option Res) : Out (Int) (Nat) → Prop
 | .ret r => ∀ (e : Env) (m : Mem), e 6 = (.int .i64 r) → m (.arg 0) = some (.rows g0_ false false 1 [[(.fn (.func 195) [] [])]]) → K .ret ⟨e, m⟩ = R
 | .done q => ∀ (e : Env) (m : Mem), m (.arg 0) = some (.rows g0_ false false 1 [[(.fn (.func 195) [] [])]]) → K (.exit 0) ⟨e, m⟩ = R
noncomputable def zhu : Code := zbq f224 [1, 0, 1, 0, 0]
theorem zdX {c1 : Bool} {c2 : Str} {kk : Nat} : ∀ {k : Nat} {s3 : Nat} {out : Out (Int) (Nat)}, zbh c1 c2 kk k s3 = some out → ∃ N, ∀ n, N ≤ n → ∀ k, N ≤ k → ∀ g0_, ∀ (e : Env) (m : Mem), e 1 = (.fn (.func 197) [] [(.ptr (.arg 0) g0_ 0 0)]) → e 2 = (.bool (c1)) → zyC (e 10) m 10 c2 s3 → m (.arg 0) = some (.rows g0_ false false 1 [[(.fn (.func 195) [] [])]]) → ∀ (K : Ex → St → Option Res) (R : Option Res), zbA c1 c2 g0_ K R out → zcj (zbH cfg (dfn cfg n) n zhu) K k ⟨e, m⟩ = R := by
 intro k
 induction k with
 | zero => intro s3 out h; cases h
 | succ k ih => ?_
 intro s3 out h
 have ih := fun x0 {out} => @ih x0 out
 unfold zbh at h
 have E := evT
 rcases zac h with ⟨h1_, h⟩ | ⟨h1_, h⟩
 have p2_ := zNE h1_
 obtain ⟨r4, h3_, h⟩ := zaa h
 have E := E.and (zvA h3_)
 rcases zac h with ⟨h4_, h⟩ | ⟨h4_, h⟩
 rcases zbW h4_ with b5_ | ⟨b5_, b6_⟩
 obtain ⟨b7_, b8_⟩ := zb2 b5_
 rotate_left
 rcases zbC b5_ with b9_ | ⟨b9_, b10_⟩
 obtain ⟨b11_, b12_⟩ := zb2 b6_
 have b13_ := zaq b11_
 have b14_ := zaq b12_
 rotate_left
 obtain ⟨b15_, b16_⟩ := zb2 b6_
 have b17_ := zaq b15_
 have b18_ := zaq b16_
 exact absurd (b9_.symm.trans b17_) (by decide)
 obtain ⟨b19_, b20_⟩ := zaM h4_
 rcases zbC b19_ with b21_ | ⟨b21_, b22_⟩
 rcases zbC b20_ with b23_ | ⟨b23_, b24_⟩
 have b25_ := zam b23_
 exact absurd (b21_.symm.trans b25_) (by decide)
 have b26_ := zaq b23_
 have b27_ := zam b24_
 rotate_left
 rcases zbC b20_ with b28_ | ⟨b28_, b29_⟩
 have b30_ := zam b28_
 rotate_left
 have b31_ := zaq b28_
 have b32_ := zam b29_
 exact absurd (b21_.symm.trans b31_) (by decide)
 have p33_ := zNF h1_
 rotate_left
 all_goals
  first | (obtain rfl := Option.some.inj h; refine E.l fun n k x => ?_) | refine E.c (ih _ h) fun n k x I => ?_
  intro g0_ e m i0 i1 i2 i3 K R hK
  obtain ⟨_, _, _⟩ := i2
  rw [zau]
  (conv => lhs; arg 4; whnf)
  first | (simp -dsimp -implicitDefEqProofs only [go_sem, *, simprocAttr]; simp only [zbA] at hK; refine hK _ _ ?_ ?_; (iterate 2 (simp -dsimp -implicitDefEqProofs only [go_sem, *, simprocAttr]))) | (simp -dsimp -implicitDefEqProofs only [go_sem, *, simprocAttr]; refine zah (I.1 g0_ _ _ ?_ ?_ ?_ ?_ _ _ hK); (iterate 4 (simp -dsimp -implicitDefEqProofs only [go_sem, *, simprocAttr]))) | (simp -dsimp -implicitDefEqProofs only [go_sem, *, simprocAttr]; simp only [zbA] at hK; refine hK _ _ ?_; simp -dsimp -implicitDefEqProofs only [go_sem, *, simprocAttr])
theorem zik {kk : Nat} {a : Str} {c : Bool} {r : Int} (h : zb5 kk a c = some r) : ∃ N, ∀ n, N ≤ n → ∀ g0_, dfn cfg n 224 [(.str a), (.fn (.func 197) [] [(.ptr (.arg 0) g0_ 0 0)]), (.bool (c))] [.rows g0_ false false 1 [[(.fn (.func 195) [] [])]]] = some ⟨(.int .i64 r), [.rows g0_ false false 1 [[(.fn (.func 195) [] [])]]], []⟩ := by
 unfold zb5 at h
 have E := evT
 rcases zaz h with ⟨r36_, o35_, h⟩ | ⟨q5, o35_, h⟩
 obtain ⟨_, l34_, E⟩ := E.lp (zdX o35_)
 rotate_left
 obtain ⟨_, l37_, E⟩ := E.lp (zdX o35_)
 rotate_left
 all_goals
  obtain rfl := Option.some.inj h
  refine E.s fun n x g0_ => ?_
  first | (have := l34_; simp -dsimp -implicitDefEqProofs only [go_sem, func224, f224, *, simprocAttr]; refine zah (l34_.1 n (by omega) g0_ _ _ ?_ ?_ ?_ ?_ _ _ ?_); (iterate 4 (simp -dsimp -implicitDefEqProofs only [go_sem, *, simprocAttr])); simp only [zbA]; intro e m i0 i1; simp -dsimp -implicitDefEqProofs only [go_sem, func224, f224, *, simprocAttr]) | (have := l37_; simp -dsimp -implicitDefEqProofs only [go_sem, func224, f224, *, simprocAttr]; refine zah (l37_.1 n (by omega) g0_ _ _ ?_ ?_ ?_ ?_ _ _ ?_); (iterate 4 (simp -dsimp -implicitDefEqProofs only [go_sem, *, simprocAttr])); simp only [zbA]; intro e m i0; simp -dsimp -implicitDefEqProofs only [go_sem, func224, f224, *, simprocAttr])
theorem zil {kk : Nat} {a : Str} {r : Int} (h : zb6 kk a = some r) : ∃ N, ∀ n, N ≤ n → ∀ g0_, dfn cfg n 211 [(.str a), (.fn (.func 197) [] [(.ptr (.arg 0) g0_ 0 0)])] [.rows g0_ false false 1 [[(.fn (.func 195) [] [])]]] = some ⟨(.int .i64 r), [.rows g0_ false false 1 [[(.fn (.func 195) [] [])]]], []⟩ := by
 unfold zb6 at h
 have E := evT
 obtain ⟨r1, h1_, h⟩ := zaa h
 have E := E.and (zik h1_)
 obtain rfl := Option.some.inj h
 refine E.s fun n x g0_ => ?_
 simp -dsimp -implicitDefEqProofs only [go_sem, func211, f211, *, simprocAttr]
theorem zhr {kk : Nat} {a : Str} {r : Bool} (h : zbB kk a = some r) : ∃ N, ∀ n, N ≤ n → ∀ g0_, dfn cfg n 196 [(.str a), (.fn (.func 197) [] [(.ptr (.arg 0) g0_ 0 0)])] [.rows g0_ false false 1 [[(.fn (.func 195) [] [])]]] = some ⟨(.bool r), [.rows g0_ false false 1 [[(.fn (.func 195) [] [])]]], []⟩ := by
 unfold zbB at h
 have E := evT
 obtain ⟨r1, h1_, h⟩ := zaa h
 have E := E.and (zil h1_)
 obtain rfl := Option.some.inj h
 refine E.s fun n x g0_ => ?_
 simp -dsimp -implicitDefEqProofs only [go_sem, func196, f196, *, simprocAttr]
def zjS (c1 : Str) (K : Ex → St → Option Res) (R : Option Res) (q : Bool) : Prop := ∀ (e : Env) (m : Mem), e 0 = (.str c1) → e 18 = (.bool (q)) → K .normal ⟨e, m⟩ = R
noncomputable def znr : Code := zbq f175 [1, 1, 0, 0]
theorem zuB {c1 : Str} {kk : Nat} {out : Bool} (h : zgS c1 kk = some out) : ∃ N, ∀ n, N ≤ n → ∀ (e : Env) (m : Mem), e 0 = (.str c1) → zD2 (e 4) m 4 1 [(.fn (.func 195) [] [])] → ∀ (K : Ex → St → Option Res) (R : Option Res), zjS c1 K R out → zbH cfg (dfn cfg n) n znr K ⟨e, m⟩ = R := by
 unfold zgS at h
 have E := evT
 rcases zac h with ⟨h1_, h⟩ | ⟨h1_, h⟩
 have b2_ := zaq h1_
 obtain ⟨y2, h3_, h⟩ := zaa h
 rcases zac h with ⟨h4_, h⟩ | ⟨h4_, h⟩
 have b5_ := zaq h4_
 obtain ⟨r3, h6_, h⟩ := zaa h
 have E := E.and (zhr h6_)
 rotate_left
 have b7_ := zam h4_
 rotate_left
 have b8_ := zam h1_
 rotate_left
 all_goals
  obtain rfl := Option.some.inj h
  refine E.j fun n x => ?_
  intro e m i0 i1 K R hK
  obtain ⟨_, _, _⟩ := i1
  (conv => lhs; arg 4; whnf)
  simp -dsimp -implicitDefEqProofs only [go_sem, *, simprocAttr]
  simp only [zjS] at hK
  refine hK _ _ ?_ ?_
  (iterate 2 (simp -dsimp -implicitDefEqProofs only [go_sem, *, simprocAttr]))
theorem zyp {kk : Nat} {a : Str} {r : Int × Int} (h : zjW kk a = some r) : Ev cfg 175 [(.str a)] (.tup [(.int .i64 r.1), (.int .i64 r.2)]) := by
 unfold zjW at h
 have E := evT
 obtain ⟨q4, o10_, h⟩ := zaa h
 obtain ⟨_, l9_, E⟩ := E.lj (zuB o10_)
 rcases zac h with ⟨h12_, h⟩ | ⟨h12_, h⟩
 rotate_left
 obtain ⟨_, h13_, h⟩ := zaa h
 have e14_ := zJr ztR a (zag h13_)
 rcases zac h with ⟨h15_, h⟩ | ⟨h15_, h⟩
 have b16_ := zaq h15_
 rotate_left
 have b17_ := zam h15_
 rotate_left
 all_goals
  obtain rfl := Option.some.inj h
  refine E.s fun n x => ?_
  have j0 := zeL cfg (dfn cfg n) n znr
  (conv at j0 => intro k s; lhs; arg 4; whnf)
  simp -dsimp -implicitDefEqProofs only [go_sem, ↓j0, func175, f175, *, simprocAttr]
  refine zgc (l9_.1 n (by omega) _ _ ?_ ?_ _ _ ?_)
  (iterate 2 (simp -dsimp -implicitDefEqProofs only [go_sem, *, simprocAttr]))
  simp only [zjS]
  intro e m i0 i1
  simp -dsimp -implicitDefEqProofs only [go_sem, ↓j0, func175, f175, *, simprocAttr]
theorem zrC (a : Str) (h : a.length < lim) : Ev cfg 175 [(.str a)] (.tup [(.int .i64 ((zhK a).1)), (.int .i64 ((zhK a).2))]) := zyp (zuK (kk := big) a h)
theorem zzt {kk : Nat} {a : Str} {r : zbw × Int} (h : zkz kk a = some r) : Ev cfg 147 [(.str a)] (.tup [(.agg (zcI r.1)), (.int .i64 r.2)]) := by
 unfold zkz at h
 have E := evT
 have E := E.and (zmy a [116])
 obtain ⟨_, h1_, h⟩ := zaa h
 have e2_ := zLP ((zgV a [116]).1) [46] (zag h1_)
 rcases zac h with ⟨h3_, h⟩ | ⟨h3_, h⟩
 rcases zbW h3_ with b4_ | ⟨b4_, b5_⟩
 have b6_ := zaq b4_
 rotate_left
 have b7_ := zam b4_
 have b8_ := zaq b5_
 rotate_left
 obtain ⟨b9_, b10_⟩ := zaM h3_
 have b11_ := zam b9_
 have b12_ := zam b10_
 obtain ⟨_, h13_, h⟩ := zaa h
 have E := E.and (zrC ((zBC ((zgV a [116]).1) [46]).1) (zag h13_))
 obtain ⟨_, h14_, h⟩ := zaa h
 have E := E.and (zrC ((zBC ((zgV a [116]).1) [46]).2.1) (zag h14_))
 rcases zac h with ⟨h15_, h⟩ | ⟨h15_, h⟩
 rcases zbW h15_ with b16_ | ⟨b16_, b17_⟩
 rotate_left
 rotate_left
 obtain ⟨b18_, b19_⟩ := zaM h15_
 rcases zac h with ⟨h20_, h⟩ | ⟨h20_, h⟩
 rcases zbW h20_ with b21_ | ⟨b21_, b22_⟩
 rotate_left
 rotate_left
 obtain ⟨b23_, b24_⟩ := zaM h20_
 rotate_left
 all_goals
  obtain rfl := Option.some.inj h
  refine E.s fun n x => ?_
  simp -dsimp -implicitDefEqProofs only [go_sem, func147, f147, *, simprocAttr]
theorem zzE (a : Str) (h : a.length < lim) : Ev cfg 147 [(.str a)] (.tup [(.agg (zcI ((zic a).1))), (.int .i64 ((zic a).2))]) := zzt (zvN (kk := big) a h)
def zjR (c1 : Str) (K : Ex → St → Option Res) (R : Option Res) (q : Bool) : Prop := ∀ (e : Env) (m : Mem), e 0 = (.str c1) → e 20 = (.bool (q)) → K .normal ⟨e, m⟩ = R
noncomputable def znq : Code := zbq f213 [1, 0, 0]
theorem zuA {c1 : Str} {kk : Nat} {out : Bool} (h : zgR c1 kk = some out) : ∃ N, ∀ n, N ≤ n → ∀ (e : Env) (m : Mem), e 0 = (.str c1) → ∀ (K : Ex → St → Option Res) (R : Option Res), zjR c1 K R out → zbH cfg (dfn cfg n) n znq K ⟨e, m⟩ = R := by
 unfold zgR at h
 have E := evT
 rcases zac h with ⟨h1_, h⟩ | ⟨h1_, h⟩
 have b2_ := zaq h1_
 obtain ⟨y2, h3_, h⟩ := zaa h
 rcases zac h with ⟨h4_, h⟩ | ⟨h4_, h⟩
 have b5_ := zaq h4_
 obtain ⟨y3, h6_, h⟩ := zaa h
 obtain ⟨_, h7_⟩ := zaI h6_
 rotate_left
 have b8_ := zam h4_
 rotate_left
 have b9_ := zam h1_
 rotate_left
 all_goals
  obtain rfl := Option.some.inj h
  refine E.j fun n x => ?_
  intro e m i0 K R hK
  (conv => lhs; arg 4; whnf)
  simp -dsimp -implicitDefEqProofs only [go_sem, *, simprocAttr]
  simp only [zjR] at hK
  refine hK _ _ ?_ ?_
  (iterate 2 (simp -dsimp -implicitDefEqProofs only [go_sem, *, simprocAttr]))
theorem zyn {kk : Nat} {a : Str} {r : Str × Bool} (h : zjU kk a = some r) : Ev cfg 213 [(.str a)] (.tup [(.str r.1), (.bool r.2)]) := by
 unfold zjU at h
 have E := evT
 obtain ⟨q4, o11_, h⟩ := zaa h
 obtain ⟨_, l10_, E⟩ := E.lj (zuA o11_)
 rcases zac h with ⟨h13_, h⟩ | ⟨h13_, h⟩
 rotate_left
 obtain ⟨y5, h14_, h⟩ := zaa h
 have h14_ : zhq prog (some (.int .i64 1)) (some (.int .i64 (IntKind.wrap .i64 ((a.length : Int) - 1)))) none (.str a) .str = pure (.str y5) := zkr h14_ prog
 obtain ⟨_, h15_, h⟩ := zaa h
 have e16_ := zl1 y5 [39, 39] [] (zag h15_)
 obtain ⟨_, h17_, h⟩ := zaa h
 have e18_ := zl1 y5 [39, 39] [39] (zag h17_)
 obtain ⟨_, h19_, h⟩ := zaa h
 have e20_ := zA1 (zlX y5 [39, 39] []) [39] (zag h19_)
 rotate_left
 all_goals
  obtain rfl := Option.some.inj h
  refine E.s fun n x => ?_
  have j0 := zeL cfg (dfn cfg n) n znq
  (conv at j0 => intro k s; lhs; arg 4; whnf)
  simp -dsimp -implicitDefEqProofs only [go_sem, ↓j0, func213, f213, *, simprocAttr]
  refine zgc (l10_.1 n (by omega) _ _ ?_ _ _ ?_)
  simp -dsimp -implicitDefEqProofs only [go_sem, *, simprocAttr]
  simp only [zjR]
  intro e m i0 i1
  simp -dsimp -implicitDefEqProofs only [go_sem, ↓j0, func213, f213, *, simprocAttr]
theorem zyL (a : Str) (h : a.length < lim) : Ev cfg 213 [(.str a)] (.tup [(.str ((zmT a).1)), (.bool ((zmT a).2))]) := zyn (zuI 0 a h)
theorem zvz {kk : Nat} {a : Str} {r : Bool} (h : zip kk a = some r) : Ev cfg 214 [(.str a)] (.bool r) := by
 unfold zip at h
 have E := evT
 have E := E.and (zsm a [45])
 rcases zac h with ⟨h1_, h⟩ | ⟨h1_, h⟩
 have b2_ := zaq h1_
 obtain ⟨y1, h3_, h⟩ := zaa h
 rcases zac h with ⟨h4_, h⟩ | ⟨h4_, h⟩
 obtain ⟨b5_, b6_⟩ := zb2 h4_
 have b7_ := zaq b6_
 rotate_left
 rcases zbC h4_ with b8_ | ⟨b8_, b9_⟩
 obtain ⟨_, h11_, h⟩ := zaa h
 have e12_ := zCS (zkc a [45]) [48, 49, 50, 51, 52, 53, 54, 55, 56, 57] (zag h11_)
 rotate_left
 have b10_ := zam b9_
 obtain ⟨_, h13_, h⟩ := zaa h
 have e14_ := zCS (zkc a [45]) [48, 49, 50, 51, 52, 53, 54, 55, 56, 57] (zag h13_)
 rotate_left
 have b15_ := zam h1_
 rotate_left
 all_goals
  obtain rfl := Option.some.inj h
  refine E.s fun n x => ?_
  simp -dsimp -implicitDefEqProofs only [go_sem, func214, f214, *, simprocAttr]
theorem zvS (a : Str) (h : a.length < lim) : Ev cfg 214 [(.str a)] (.bool (zwe a)) := zvz (zsg 0 a h)
theorem zBM {kk : Nat} {a : Str} {r : Val × Int} (h : zlD kk a = some r) : Ev cfg 200 [(.str a)] (.tup [(.agg (zhj r.1)), (.int .i64 r.2)]) := by
 unfold zlD at h
 have E := evT
 rcases zac h with ⟨h1_, h⟩ | ⟨h1_, h⟩
 rotate_left
 rcases zac h with ⟨h2_, h⟩ | ⟨h2_, h⟩
 rotate_left
 obtain ⟨_, h3_, h⟩ := zaa h
 have E := E.and (zyL a (zag h3_))
 rcases zac h with ⟨h4_, h⟩ | ⟨h4_, h⟩
 rcases zac h with ⟨h5_, h⟩ | ⟨h5_, h⟩
 rotate_left
 rotate_left
 obtain ⟨_, h6_, h⟩ := zaa h
 have E := E.and (zvS a (zag h6_))
 rcases zac h with ⟨h7_, h⟩ | ⟨h7_, h⟩
 have b8_ := zaq h7_
 rotate_left
 have b9_ := zam h7_
 obtain ⟨_, h10_, h⟩ := zaa h
 have e11_ := ztO ztR a 10 64 (zag h10_)
 rcases zac h with ⟨h12_, h⟩ | ⟨h12_, h⟩
 have b13_ := zaq h12_
 rotate_left
 have b14_ := zam h12_
 rotate_left
 all_goals
  obtain rfl := Option.some.inj h
  refine E.s fun n x => ?_
  simp -dsimp -implicitDefEqProofs only [go_sem, func200, f200, *, simprocAttr]
theorem zuP (a : Str) (h : a.length < lim) : Ev cfg 200 [(.str a)] (.tup [(.agg (zhj ((ze8 a).1))), (.int .i64 ((ze8 a).2))]) := zBM (zwJ 0 a h)
def zer (c4 : Int) (c5 : zab) (c6 : Val) (g0_ : Nat) (K : Ex → St → Option Res) (R : Option Res) (q : Bool) : Prop := ∀ (e : Env) (m : Mem), e 0 = .ptr (.arg 0) g0_ 0 0 → zci (e 2) m 2 3 (zhj c6) → e 5 = (.int .i64 c4) → e 37 = (.bool (q)) → m (.arg 0) = some (.rows g0_ false true 1 [zae c5]) → K .normal ⟨e, m⟩ = R
noncomputable def zg4 : Code := zbq f178 [1, 1, 0, 1, 0, 1, 0, 0, 0, 0, 0]
theorem zkP {c4 : Int} {c5 : zab} {c6 : Val} {kk : Nat} {out : Bool} (h : zdg c4 c5 c6 kk = some out) : ∃ N, ∀ n, N ≤ n → ∀ g0_, ∀ (e : Env) (m : Mem), e 0 = .ptr (.arg 0) g0_ 0 0 → zci (e 2) m 2 3 (zhj c6) → e 5 = (.int .i64 c4) → m (.arg 0) = some (.rows g0_ false true 1 [zae c5]) → ∀ (K : Ex → St → Option Res) (R : Option Res), zer c4 c5 c6 g0_ K R out → zbH cfg (dfn cfg n) n zg4 K ⟨e, m⟩ = R := by
 unfold zdg at h
 have E := evT
 rcases zac h with ⟨h1_, h⟩ | ⟨h1_, h⟩
 obtain ⟨y7, h2_, h⟩ := zaa h
 obtain ⟨_, h3_⟩ := zaI h2_
 rcases zac h with ⟨h4_, h⟩ | ⟨h4_, h⟩
 have b5_ := zaq h4_
 obtain ⟨y8, h6_, h⟩ := zaa h
 have h6_ : zhq prog (some (.int .i64 c4)) none none (.str c5.rest) .str = pure (.str y8) := zkr h6_ prog
 have E := E.and (zmx y8 [39, 39])
 rotate_left
 have b7_ := zam h4_
 rotate_left
 rotate_left
 all_goals
  obtain rfl := Option.some.inj h
  refine E.j fun n x => ?_
  intro g0_ e m i0 i1 i2 i3 K R hK
  obtain ⟨_, _, _⟩ := i1
  (conv => lhs; arg 4; whnf)
  simp -dsimp -implicitDefEqProofs only [go_sem, *, simprocAttr]
  simp only [zer] at hK
  refine hK _ _ ?_ ?_ ?_ ?_ ?_
  (iterate 5 (simp -dsimp -implicitDefEqProofs only [go_sem, *, simprocAttr]))
def zc5 (c2 : zab) (c3 : Val) (g0_ : Nat) (K : Ex → St → Option Res) (R : Option Res) : Out (Val × Bool × zab) (Int) → Prop
 | .ret r => ∀ (e : Env) (m : Mem), zci (e 2) m 2 3 (zhj r.1) → e 3 = (.bool r.2.1) → m (.arg 0) = some (.rows g0_ false true 1 [zae r.2.2]) → K .ret ⟨e, m⟩ = R
 | .done q => ∀ (e : Env) (m : Mem), e 0 = .ptr (.arg 0) g0_ 0 0 → zci (e 2) m 2 3 (zhj c3) → e 5 = (.int .i64 q) → m (.arg 0) = some (.rows g0_ false true 1 [zae c2]) → K (.exit 0) ⟨e, m⟩ = R
noncomputable def zkW : Code := zbq f178 [1, 1, 0, 1, 0, 1, 0, 0, 0]
theorem zgX {c2 : zab} {c3 : Val} {kk : Nat} : ∀ {k : Nat} {s1 : Int} {out : Out (Val × Bool × zab) (Int)}, zbJ c2 c3 kk k s1 = some out → ∃ N, ∀ n, N ≤ n → ∀ k, N ≤ k → ∀ g0_, ∀ (e : Env) (m : Mem), e 0 = .ptr (.arg 0) g0_ 0 0 → zci (e 2) m 2 3 (zhj c3) → e 5 = (.int .i64 s1) → m (.arg 0) = some (.rows g0_ false true 1 [zae c2]) → ∀ (K : Ex → St → Option Res) (R : Option Res), zc5 c2 c3 g0_ K R out → zcj (zbH cfg (dfn cfg n) n zkW) K k ⟨e, m⟩ = R := by
 intro k
 induction k with
 | zero => intro s1 out h; cases h
 | succ k ih => ?_
 intro s1 out h
 have ih := fun x0 {out} => @ih x0 out
 unfold zbJ at h
 have E := evT
 obtain ⟨q9, o9_, h⟩ := zaa h
 obtain ⟨_, l8_, E⟩ := E.lj (zkP o9_)
 rcases zac h with ⟨h11_, h⟩ | ⟨h11_, h⟩
 obtain ⟨y10, h12_, h⟩ := zaa h
 obtain ⟨_, h13_⟩ := zaI h12_
 rcases zac h with ⟨h14_, h⟩ | ⟨h14_, h⟩
 rotate_left
 rotate_left
 rotate_left
 all_goals
  first | (obtain rfl := Option.some.inj h; refine E.l fun n k x => ?_) | refine E.c (ih _ h) fun n k x I => ?_
  intro g0_ e m i0 i1 i2 i3 K R hK
  obtain ⟨_, _, _⟩ := i1
  have j0 := zeL cfg (dfn cfg n) n zg4
  (conv at j0 => intro k s; lhs; arg 4; whnf)
  rw [zau]
  (conv => lhs; arg 4; whnf)
  simp -dsimp -implicitDefEqProofs only [go_sem, ↓j0, *, simprocAttr]
  refine zgc (l8_.1 n (by omega) g0_ _ _ ?_ ?_ ?_ ?_ _ _ ?_)
  (iterate 4 (simp -dsimp -implicitDefEqProofs only [go_sem, *, simprocAttr]))
  simp only [zer]
  intro e m i0 i1 i2 i3 i4
  obtain ⟨_, _, _⟩ := i1
  first | ((try simp -dsimp -implicitDefEqProofs only [go_sem, ↓j0, *, simprocAttr]); refine zah (I.1 g0_ _ _ ?_ ?_ ?_ ?_ _ _ hK); (iterate 4 (simp -dsimp -implicitDefEqProofs only [go_sem, *, simprocAttr]))) | ((try simp -dsimp -implicitDefEqProofs only [go_sem, ↓j0, *, simprocAttr]); simp only [zc5] at hK; refine hK _ _ ?_ ?_ ?_ ?_; (iterate 4 (simp -dsimp -implicitDefEqProofs only [go_sem, *, simprocAttr])))
theorem zml {kk : Nat} {a : zab} {r : Val × Bool × zab} (h : zdG kk a = some r) : ∃ N, ∀ n, N ≤ n → ∀ g0_, dfn cfg n 178 [(.ptr (.arg 0) g0_ 0 0)] [.rows g0_ false true 1 [zae a]] = some ⟨(.tup [(.agg (zhj r.1)), (.bool r.2.1)]), [.rows g0_ false true 1 [zae r.2.2]], []⟩ := by
 unfold zdG at h
 have E := evT
 have E := E.and (zmx a.rest [39])
 rcases zac h with ⟨h15_, h⟩ | ⟨h15_, h⟩
 rcases zaz h with ⟨r18_, o17_, h⟩ | ⟨q11, o17_, h⟩
 obtain ⟨_, l16_, E⟩ := E.lp (zgX o17_)
 rotate_left
 obtain ⟨_, l19_, E⟩ := E.lp (zgX o17_)
 rcases zac h with ⟨h20_, h⟩ | ⟨h20_, h⟩
 rotate_left
 obtain ⟨y12, h21_, h⟩ := zaa h
 have h21_ : zhq prog none (some (.int .i64 (IntKind.wrap .i64 (q11 + 1)))) none (.str a.rest) .str = pure (.str y12) := zkr h21_ prog
 obtain ⟨y13, h22_, h⟩ := zaa h
 have h22_ : zhq prog (some (.int .i64 (IntKind.wrap .i64 (q11 + 1)))) none none (.str a.rest) .str = pure (.str y13) := zkr h22_ prog
 obtain ⟨_, h23_, h⟩ := zaa h
 have E := E.and (zuP y12 (zag h23_))
 rotate_left
 obtain ⟨_, h24_, h⟩ := zaa h
 have E := E.and (zhi a [45, 48, 49, 50, 51, 52, 53, 54, 55, 56, 57, 84, 82, 85, 69, 70, 65, 76, 83, 69] (zag h24_))
 obtain ⟨_, h25_, h⟩ := zaa h
 have E := E.and (zuP ((zl0 a [45, 48, 49, 50, 51, 52, 53, 54, 55, 56, 57, 84, 82, 85, 69, 70, 65, 76, 83, 69]).1) (zag h25_))
 rotate_left
 all_goals
  obtain rfl := Option.some.inj h
  refine E.s fun n x g0_ => ?_
  first | (have := l16_; simp -dsimp -implicitDefEqProofs only [go_sem, func178, f178, *, simprocAttr]; refine zah (l16_.1 n (by omega) g0_ _ _ ?_ ?_ ?_ ?_ _ _ ?_); (iterate 4 (simp -dsimp -implicitDefEqProofs only [go_sem, *, simprocAttr])); simp only [zc5]; intro e m i0 i1 i2; obtain ⟨_, _, _⟩ := i0; simp -dsimp -implicitDefEqProofs only [go_sem, func178, f178, *, simprocAttr] <;> simp -dsimp -implicitDefEqProofs only [go_sem, func178, f178, zgf, *, simprocAttr]) | (have := l19_; simp -dsimp -implicitDefEqProofs only [go_sem, func178, f178, *, simprocAttr]; refine zah (l19_.1 n (by omega) g0_ _ _ ?_ ?_ ?_ ?_ _ _ ?_); (iterate 4 (simp -dsimp -implicitDefEqProofs only [go_sem, *, simprocAttr])); simp only [zc5]; intro e m i0 i1 i2 i3; obtain ⟨_, _, _⟩ := i1; simp -dsimp -implicitDefEqProofs only [go_sem, func178, f178, *, simprocAttr] <;> simp -dsimp -implicitDefEqProofs only [go_sem, func178, f178, zgf, *, simprocAttr]) | (simp -dsimp -implicitDefEqProofs only [go_sem, func178, f178, *, simprocAttr] <;> simp -dsimp -implicitDefEqProofs only [go_sem, func178, f178, zgf, *, simprocAttr])
theorem zh4 (a : zab) (h : a.rest.length < lim) : ∃ N, ∀ n, N ≤ n → ∀ g0_, dfn cfg n 178 [(.ptr (.arg 0) g0_ 0 0)] [.rows g0_ false true 1 [zae a]] = some ⟨(.tup [(.agg (zhj ((zkF a).1))), (.bool ((zkF a).2.1))]), [.rows g0_ false true 1 [zae ((zkF a).2.2)]], []⟩ := zml (zkS (kk := big) a h)
end Go.Proofs.Tryz
set_option maxRecDepth 100000
set_option maxHeartbeats 4000000
set_option linter.unusedSimpArgs false
set_option linter.unusedVariables false
namespace Go.Proofs.Tryz
open Go.Ev
theorem zmF {kk : Nat} {a : Str} {u1 : zab} {r : Bool × zab} (h : zdS kk a u1 = some r) : ∃ N, ∀ n, N ≤ n → ∀ g0_ g1_, dfn cfg n 177 [(.str a), (.ptr (.arg 0) g0_ 0 0)] [.rows g0_ false false 1 [[(.ptr (.arg 1) g1_ 0 0)]], .rows g1_ false true 1 [zae u1]] = some ⟨(.bool r.1), [.rows g0_ false false 1 [[(.ptr (.arg 1) g1_ 0 0)]], .rows g1_ false true 1 [zae r.2]], []⟩ := by
 unfold zdS at h
 have E := evT
 obtain ⟨_, h1_, h⟩ := zaa h
 have h1_ := zag h1_
 try simp -dsimp -implicitDefEqProofs only [go_sem, simprocAttr] at h1_
 have E := E.and (zay u1 (a ++ [123]))
 obtain rfl := Option.some.inj h
 refine E.s fun n x g0_ g1_ => ?_
 simp -dsimp -implicitDefEqProofs only [go_sem, func177, f177, *, simprocAttr] <;> simp -dsimp -implicitDefEqProofs only [go_sem, func177, f177, zgf, *, simprocAttr]
def zaV (c1 : Sl Str) (c2 : Int) (g0_ : Nat) (g1_ : Nat) (K : Ex → St → Option Res) (R : Option Res) : Out (Int × zab) (Int × zab) → Prop
 | .ret r => ∀ (e : Env) (m : Mem), e 4 = (.int .i64 r.1) → m (.arg 0) = some (.rows g0_ false false 1 [[(.ptr (.arg 1) g1_ 0 0)]]) → m (.arg 1) = some (.rows g1_ false true 1 [zae r.2]) → K .ret ⟨e, m⟩ = R
 | .done q => ∀ (e : Env) (m : Mem), m (.arg 0) = some (.rows g0_ false false 1 [[(.ptr (.arg 1) g1_ 0 0)]]) → m (.arg 1) = some (.rows g1_ false true 1 [zae q.2]) → K (.exit 0) ⟨e, m⟩ = R
noncomputable def zeH : Code := zbq f176 [1, 0, 1, 0, 0]
theorem zcm {c1 : Sl Str} {c2 : Int} {kk : Nat} : ∀ {k : Nat} {s3 : Int} {s4 : zab} {out : Out (Int × zab) (Int × zab)}, zaF c1 c2 kk k s3 s4 = some out → ∃ N, ∀ n, N ≤ n → ∀ k, N ≤ k → ∀ g0_ g1_, ∀ (e : Env) (m : Mem), e 0 = (dSl zrk c1) → e 1 = (.fn (.func 177) [] [(.ptr (.arg 0) g0_ 0 0)]) → e 7 = (.int .i64 c2) → e 8 = (.int .i64 s3) → m (.arg 0) = some (.rows g0_ false false 1 [[(.ptr (.arg 1) g1_ 0 0)]]) → m (.arg 1) = some (.rows g1_ false true 1 [zae s4]) → ∀ (K : Ex → St → Option Res) (R : Option Res), zaV c1 c2 g0_ g1_ K R out → zcj (zbH cfg (dfn cfg n) n zeH) K k ⟨e, m⟩ = R := by
 intro k
 induction k with
 | zero => intro s3 s4 out h; cases h
 | succ k ih => ?_
 intro s3 s4 out h
 have ih := fun x0 x1 {out} => @ih x0 x1 out
 unfold zaF at h
 have E := evT
 rcases zac h with ⟨h1_, h⟩ | ⟨h1_, h⟩
 obtain ⟨y5, h2_, h⟩ := zaa h
 obtain ⟨_, h3_⟩ := zaI h2_
 have h3_ := zax h3_ zrk
 obtain ⟨r6, h4_, h⟩ := zaa h
 have E := E.and (zmF h4_)
 rcases zac h with ⟨h5_, h⟩ | ⟨h5_, h⟩
 rotate_left
 rotate_left
 rotate_left
 all_goals
  first | (obtain rfl := Option.some.inj h; refine E.l fun n k x => ?_) | refine E.c (ih _ _ h) fun n k x I => ?_
  intro g0_ g1_ e m i0 i1 i2 i3 i4 i5 K R hK
  rw [zau]
  (conv => lhs; arg 4; whnf)
  first | (simp -dsimp -implicitDefEqProofs only [go_sem, *, simprocAttr]; simp only [zaV] at hK; refine hK _ _ ?_ ?_ ?_; (iterate 3 (simp -dsimp -implicitDefEqProofs only [go_sem, *, simprocAttr]))) | (simp -dsimp -implicitDefEqProofs only [go_sem, *, simprocAttr]; refine zah (I.1 g0_ g1_ _ _ ?_ ?_ ?_ ?_ ?_ ?_ _ _ hK); (iterate 6 (simp -dsimp -implicitDefEqProofs only [go_sem, *, simprocAttr]))) | (simp -dsimp -implicitDefEqProofs only [go_sem, *, simprocAttr]; simp only [zaV] at hK; refine hK _ _ ?_ ?_; (iterate 2 (simp -dsimp -implicitDefEqProofs only [go_sem, *, simprocAttr])))
theorem zfc {kk : Nat} {a : (Sl Str)} {u1 : zab} {r : Int × zab} (h : zbm kk a u1 = some r) : ∃ N, ∀ n, N ≤ n → ∀ g0_ g1_, dfn cfg n 176 [(dSl zrk a), (.fn (.func 177) [] [(.ptr (.arg 0) g0_ 0 0)])] [.rows g0_ false false 1 [[(.ptr (.arg 1) g1_ 0 0)]], .rows g1_ false true 1 [zae u1]] = some ⟨(.int .i64 r.1), [.rows g0_ false false 1 [[(.ptr (.arg 1) g1_ 0 0)]], .rows g1_ false true 1 [zae r.2]], []⟩ := by
 unfold zbm at h
 have E := evT
 rcases zaz h with ⟨r8_, o7_, h⟩ | ⟨q7, o7_, h⟩
 obtain ⟨_, l6_, E⟩ := E.lp (zcm o7_)
 rotate_left
 obtain ⟨_, l9_, E⟩ := E.lp (zcm o7_)
 rotate_left
 all_goals
  obtain rfl := Option.some.inj h
  refine E.s fun n x g0_ g1_ => ?_
  first | (have := l6_; simp -dsimp -implicitDefEqProofs only [go_sem, func176, f176, *, simprocAttr]; refine zah (l6_.1 n (by omega) g0_ g1_ _ _ ?_ ?_ ?_ ?_ ?_ ?_ _ _ ?_); (iterate 6 (simp -dsimp -implicitDefEqProofs only [go_sem, *, simprocAttr])); simp only [zaV]; intro e m i0 i1 i2; simp -dsimp -implicitDefEqProofs only [go_sem, func176, f176, *, simprocAttr] <;> simp -dsimp -implicitDefEqProofs only [go_sem, func176, f176, zgf, *, simprocAttr]) | (have := l9_; simp -dsimp -implicitDefEqProofs only [go_sem, func176, f176, *, simprocAttr]; refine zah (l9_.1 n (by omega) g0_ g1_ _ _ ?_ ?_ ?_ ?_ ?_ ?_ _ _ ?_); (iterate 6 (simp -dsimp -implicitDefEqProofs only [go_sem, *, simprocAttr])); simp only [zaV]; intro e m i0 i1; simp -dsimp -implicitDefEqProofs only [go_sem, func176, f176, *, simprocAttr] <;> simp -dsimp -implicitDefEqProofs only [go_sem, func176, f176, zgf, *, simprocAttr])
theorem zmE {kk : Nat} {a : Str} {u1 : zab} {r : Bool × zab} (h : zdR kk a u1 = some r) : ∃ N, ∀ n, N ≤ n → ∀ g0_ g1_, dfn cfg n 179 [(.str a), (.ptr (.arg 0) g0_ 0 0)] [.rows g0_ false false 1 [[(.ptr (.arg 1) g1_ 0 0)]], .rows g1_ false true 1 [zae u1]] = some ⟨(.bool r.1), [.rows g0_ false false 1 [[(.ptr (.arg 1) g1_ 0 0)]], .rows g1_ false true 1 [zae r.2]], []⟩ := by
 unfold zdR at h
 have E := evT
 obtain ⟨_, h1_, h⟩ := zaa h
 have h1_ := zag h1_
 try simp -dsimp -implicitDefEqProofs only [go_sem, simprocAttr] at h1_
 have E := E.and (zay u1 (a ++ [32]))
 obtain rfl := Option.some.inj h
 refine E.s fun n x g0_ g1_ => ?_
 simp -dsimp -implicitDefEqProofs only [go_sem, func179, f179, *, simprocAttr] <;> simp -dsimp -implicitDefEqProofs only [go_sem, func179, f179, zgf, *, simprocAttr]
def zaU (c1 : Sl Str) (c2 : Int) (g0_ : Nat) (g1_ : Nat) (K : Ex → St → Option Res) (R : Option Res) : Out (Int × zab) (Int × zab) → Prop
 | .ret r => ∀ (e : Env) (m : Mem), e 4 = (.int .i64 r.1) → m (.arg 0) = some (.rows g0_ false false 1 [[(.ptr (.arg 1) g1_ 0 0)]]) → m (.arg 1) = some (.rows g1_ false true 1 [zae r.2]) → K .ret ⟨e, m⟩ = R
 | .done q => ∀ (e : Env) (m : Mem), m (.arg 0) = some (.rows g0_ false false 1 [[(.ptr (.arg 1) g1_ 0 0)]]) → m (.arg 1) = some (.rows g1_ false true 1 [zae q.2]) → K (.exit 0) ⟨e, m⟩ = R
noncomputable def zeG : Code := zbq f176 [1, 0, 1, 0, 0]
theorem zcl {c1 : Sl Str} {c2 : Int} {kk : Nat} : ∀ {k : Nat} {s3 : Int} {s4 : zab} {out : Out (Int × zab) (Int × zab)}, zaE c1 c2 kk k s3 s4 = some out → ∃ N, ∀ n, N ≤ n → ∀ k, N ≤ k → ∀ g0_ g1_, ∀ (e : Env) (m : Mem), e 0 = (dSl zrk c1) → e 1 = (.fn (.func 179) [] [(.ptr (.arg 0) g0_ 0 0)]) → e 7 = (.int .i64 c2) → e 8 = (.int .i64 s3) → m (.arg 0) = some (.rows g0_ false false 1 [[(.ptr (.arg 1) g1_ 0 0)]]) → m (.arg 1) = some (.rows g1_ false true 1 [zae s4]) → ∀ (K : Ex → St → Option Res) (R : Option Res), zaU c1 c2 g0_ g1_ K R out → zcj (zbH cfg (dfn cfg n) n zeG) K k ⟨e, m⟩ = R := by
 intro k
 induction k with
 | zero => intro s3 s4 out h; cases h
 | succ k ih => ?_
 intro s3 s4 out h
 have ih := fun x0 x1 {out} => @ih x0 x1 out
 unfold zaE at h
 have E := evT
 rcases zac h with ⟨h1_, h⟩ | ⟨h1_, h⟩
 obtain ⟨y5, h2_, h⟩ := zaa h
 obtain ⟨_, h3_⟩ := zaI h2_
 have h3_ := zax h3_ zrk
 obtain ⟨r6, h4_, h⟩ := zaa h
 have E := E.and (zmE h4_)
 rcases zac h with ⟨h5_, h⟩ | ⟨h5_, h⟩
 rotate_left
 rotate_left
 rotate_left
 all_goals
  first | (obtain rfl := Option.some.inj h; refine E.l fun n k x => ?_) | refine E.c (ih _ _ h) fun n k x I => ?_
  intro g0_ g1_ e m i0 i1 i2 i3 i4 i5 K R hK
  rw [zau]
  (conv => lhs; arg 4; whnf)
  first | (simp -dsimp -implicitDefEqProofs only [go_sem, *, simprocAttr]; simp only [zaU] at hK; refine hK _ _ ?_ ?_ ?_; (iterate 3 (simp -dsimp -implicitDefEqProofs only [go_sem, *, simprocAttr]))) | (simp -dsimp -implicitDefEqProofs only [go_sem, *, simprocAttr]; refine zah (I.1 g0_ g1_ _ _ ?_ ?_ ?_ ?_ ?_ ?_ _ _ hK); (iterate 6 (simp -dsimp -implicitDefEqProofs only [go_sem, *, simprocAttr]))) | (simp -dsimp -implicitDefEqProofs only [go_sem, *, simprocAttr]; simp only [zaU] at hK; refine hK _ _ ?_ ?_; (iterate 2 (simp -dsimp -implicitDefEqProofs only [go_sem, *, simprocAttr])))
theorem zfb {kk : Nat} {a : (Sl Str)} {u1 : zab} {r : Int × zab} (h : zbl kk a u1 = some r) : ∃ N, ∀ n, N ≤ n → ∀ g0_ g1_, dfn cfg n 176 [(dSl zrk a), (.fn (.func 179) [] [(.ptr (.arg 0) g0_ 0 0)])] [.rows g0_ false false 1 [[(.ptr (.arg 1) g1_ 0 0)]], .rows g1_ false true 1 [zae u1]] = some ⟨(.int .i64 r.1), [.rows g0_ false false 1 [[(.ptr (.arg 1) g1_ 0 0)]], .rows g1_ false true 1 [zae r.2]], []⟩ := by
 unfold zbl at h
 have E := evT
 rcases zaz h with ⟨r8_, o7_, h⟩ | ⟨q7, o7_, h⟩
 obtain ⟨_, l6_, E⟩ := E.lp (zcl o7_)
 rotate_left
 obtain ⟨_, l9_, E⟩ := E.lp (zcl o7_)
 rotate_left
 all_goals
  obtain rfl := Option.some.inj h
  refine E.s fun n x g0_ g1_ => ?_
  first | (have := l6_; simp -dsimp -implicitDefEqProofs only [go_sem, func176, f176, *, simprocAttr]; refine zah (l6_.1 n (by omega) g0_ g1_ _ _ ?_ ?_ ?_ ?_ ?_ ?_ _ _ ?_); (iterate 6 (simp -dsimp -implicitDefEqProofs only [go_sem, *, simprocAttr])); simp only [zaU]; intro e m i0 i1 i2; simp -dsimp -implicitDefEqProofs only [go_sem, func176, f176, *, simprocAttr] <;> simp -dsimp -implicitDefEqProofs only [go_sem, func176, f176, zgf, *, simprocAttr]) | (have := l9_; simp -dsimp -implicitDefEqProofs only [go_sem, func176, f176, *, simprocAttr]; refine zah (l9_.1 n (by omega) g0_ g1_ _ _ ?_ ?_ ?_ ?_ ?_ ?_ _ _ ?_); (iterate 6 (simp -dsimp -implicitDefEqProofs only [go_sem, *, simprocAttr])); simp only [zaU]; intro e m i0 i1; simp -dsimp -implicitDefEqProofs only [go_sem, func176, f176, *, simprocAttr] <;> simp -dsimp -implicitDefEqProofs only [go_sem, func176, f176, zgf, *, simprocAttr])
theorem zfp (a : (Sl Str)) (u1 : zab) (h : zv3 a) : ∃ N, ∀ n, N ≤ n → ∀ g0_ g1_, dfn cfg n 176 [(dSl zrk a), (.fn (.func 177) [] [(.ptr (.arg 0) g0_ 0 0)])] [.rows g0_ false false 1 [[(.ptr (.arg 1) g1_ 0 0)]], .rows g1_ false true 1 [zae u1]] = some ⟨(.int .i64 ((zE0 a u1).1)), [.rows g0_ false false 1 [[(.ptr (.arg 1) g1_ 0 0)]], .rows g1_ false true 1 [zae ((zE0 a u1).2)]], []⟩ := zfc (zeC (kk := big) a u1 h)
theorem zfo (a : (Sl Str)) (u1 : zab) (h : zv3 a) : ∃ N, ∀ n, N ≤ n → ∀ g0_ g1_, dfn cfg n 176 [(dSl zrk a), (.fn (.func 179) [] [(.ptr (.arg 0) g0_ 0 0)])] [.rows g0_ false false 1 [[(.ptr (.arg 1) g1_ 0 0)]], .rows g1_ false true 1 [zae u1]] = some ⟨(.int .i64 ((zvi a u1).1)), [.rows g0_ false false 1 [[(.ptr (.arg 1) g1_ 0 0)]], .rows g1_ false true 1 [zae ((zvi a u1).2)]], []⟩ := zfb (zeB (kk := big) a u1 h)
end Go.Proofs.Tryz
set_option maxRecDepth 100000
set_option maxHeartbeats 4000000
set_option linter.unusedSimpArgs false
namespace Go.Proofs.Tryz
open Go.Ev
theorem zJY {α : Type} {p q : α → Bool} : ∀ {l : List α}, (∀ x ∈ l, q x = true → p x = true) → (∃ x ∈ l, p x = true ∧ q x = false) → (l.filter q).length < (l.filter p).length := by
 intro l
 induction l with
 | nil => rintro _ ⟨x, hx, _⟩; simp at hx
 | cons y l ih =>
   intro h ⟨x, hx, h1, h2⟩
   have hle : (l.filter q).length ≤ (l.filter p).length := by
    clear ih hx
    induction l with
    | nil => simp
    | cons z l ih2 =>
      have := ih2 (fun x hx => h x (by rcases List.mem_cons.1 hx with rfl | hx <;> simp [*]))
      have hz := h z (by simp)
      simp only [List.filter_cons]
      cases hq : q z
      · cases hp : p z <;> simp <;> omega
      · simp [hz hq]; exact this
   simp only [List.filter_cons]
   rcases List.mem_cons.1 hx with rfl | hx
   · simp [h1, h2]; omega
   · have := ih (fun x hx => h x (by simp [hx])) ⟨x, hx, h1, h2⟩
     cases hq : q y
     · cases hp : p y <;> simp <;> omega
     · simp [h y (by simp) hq]; exact this
theorem zxk {b : UInt8} {p s : Str} (h : (zaP (b :: p) s).1 = true) : s.head? = some b := by
 have := zzN (p := b :: p) (s := s) (r := (zaP (b :: p) s).2) (by rw [← h])
 rw [this]; rfl
theorem zNy {s : Str} (h : (zaP zeY s).1 = true) : zhO s = (1, (zaP zeY s).2) := by unfold zhO; rw [if_pos h]
theorem zNx {s : Str} (h : (zaP zeZ s).1 = true) : zhO s = (2, (zaP zeZ s).2) := by
 have e := zxk h
 unfold zhO
 rw [show zaP zeY s = (false, s) from zlo _ s 109 (by rw [e]; decide), if_neg (by simp), if_pos h]
theorem zNw {s : Str} (h : (zaP zcZ s).1 = true) : zhO s = (3, (zaP zcZ s).2) := by
 have e := zxk h
 unfold zhO
 rw [show zaP zeY s = (false, s) from zlo _ s 109 (by rw [e]; decide), if_neg (by simp), show zaP zeZ s = (false, s) from zlo _ s 100 (by rw [e]; decide), if_neg (by simp), if_pos h]
theorem zNv {s : Str} (h : (zaP ziz s).1 = true) : zhO s = (4, (zaP ziz s).2) := by
 have e := zxk h
 unfold zhO
 rw [show zaP zeY s = (false, s) from zlo _ s 109 (by rw [e]; decide), if_neg (by simp), show zaP zeZ s = (false, s) from zlo _ s 100 (by rw [e]; decide), if_neg (by simp), show zaP zcZ s = (false, s) from zlo _ s 97 (by rw [e]; decide), if_neg (by simp), if_pos h]
theorem zNz {s : Str} (h1 : (zaP zeY s).1 = false) (h2 : (zaP zeZ s).1 = false) (h3 : (zaP zcZ s).1 = false) (h4 : (zaP ziz s).1 = false) : zhO s = (0, s) := by
 unfold zhO
 rw [h1, h2, h3, h4]; rfl
theorem zA0 {p : zab} {w : Str} (h : (zaP w p.rest).1 = false) : zaQ p w = (false, p) := by
 unfold zaQ
 rw [h, zsQ (r := (zaP w p.rest).2) (by rw [← h])]
noncomputable def BHL : Code := zbq f121 [1, 1, 0, 1, 0, 0]
def zgu : List Ent := [⟨.int .i64 1, .str zeY, 0⟩, ⟨.int .i64 2, .str zeZ, 1⟩, ⟨.int .i64 3, .str zcZ, 2⟩, ⟨.int .i64 4, .str ziz, 3⟩]
theorem zP5 : (zgu.all fun e => decide (e.born ≥ 4)) = false := rfl
theorem zg9 : (zgu.find? fun e => e.born == 0) = some ⟨.int .i64 1, .str zeY, 0⟩ := rfl
theorem zg8 : (zgu.find? fun e => e.born == 1) = some ⟨.int .i64 2, .str zeZ, 1⟩ := rfl
theorem zg7 : (zgu.find? fun e => e.born == 2) = some ⟨.int .i64 3, .str zcZ, 2⟩ := rfl
theorem zg6 : (zgu.find? fun e => e.born == 3) = some ⟨.int .i64 4, .str ziz, 3⟩ := rfl
def zMA (n : Nat) (c2 : zab) (w : Str) : Prop := ∀ g0_, dfn cfg n 76 [(.ptr (.arg 0) g0_ 0 0), (.str w)] [.rows g0_ false true 1 [zae c2]] = some ⟨(.bool ((zaQ c2 w).1)), [.rows g0_ false true 1 [zae ((zaQ c2 w).2)]], []⟩
theorem zHD (c1 : Int) (c2 : zab) (c3 c4 : zan) (n : Nat) (g0_ : Nat) (gi gm : Nat) (K : Ex → St → Option Res) (R : Option Res)
 (t0 : zMA n c2 zeY) (t1 : zMA n c2 zeZ) (t2 : zMA n c2 zcZ) (t3 : zMA n c2 ziz)
 (hK : ∀ (x : Int) (w : zab), zq7 c2 c4 = some (w, x) → ∀ (e : Env) (m : Mem), e 0 = .ptr (.arg 0) g0_ 0 0 → e 1 = (.int .i64 c1) → zci (e 4) m 4 10 (zbj c3) → zci (e 6) m 6 10 (zbj (c4.setKind x)) → m (.arg 0) = some (.rows g0_ false true 1 [zae w]) → K (.exit 0) ⟨e, m⟩ = R) :
 ∀ (j : Nat) (seen : List Nat), (zgu.filter fun e => !seen.contains e.born).length < j →
  (∀ e ∈ zgu, seen.contains e.born = true → ∀ w, e.val = .str w → (zaP w c2.rest).1 = false) →
  ∀ (k : Nat) (_ : j ≤ k) (e : Env) (m : Mem), e 0 = .ptr (.arg 0) g0_ 0 0 → e 1 = (.int .i64 c1) → zci (e 4) m 4 10 (zbj c3) → zci (e 6) m 6 10 (zbj c4) → m (.arg 0) = some (.rows g0_ false true 1 [zae c2]) →
  e 18 = .iter (.loc 18 0) gi → m (.loc 18 0) = some (.miter gi (some (.loc 16 0, gm)) 4 seen 4) → m (.loc 16 0) = some (.map gm true zgu 4) →
  zcj (zbH cfg (dfn cfg n) n BHL) K k ⟨e, m⟩ = R := by
 intro j
 induction j with
 | zero => intro seen h; omega
 | succ j ih =>
   intro seen hj hseen k hk e m i0 i1 i2 i3 i4 i5 i6 i7
   obtain ⟨k, rfl⟩ : ∃ q, k = q + 1 := ⟨k - 1, by omega⟩
   obtain ⟨_, f1, f2⟩ := i2
   obtain ⟨_, f3, f4⟩ := i3
   rw [zau]
   conv => lhs; arg 4; whnf
   simp -dsimp -implicitDefEqProofs only [go_sem, i0, i1, f1, f2, f3, f4, i4, i5, i6, i7, zP5, simprocAttr]
   refine zIB ?_ ?_
   · intro hn
     rw [List.append_eq_nil_iff, List.append_eq_nil_iff] at hn
     obtain ⟨h1, h2, _⟩ := hn
     rw [List.map_eq_nil_iff] at h2
     rw [h2] at h1; simp at h1
   intro r hr
   have hr2 : (r = (D.tup [D.bool false], []) ∧ ∀ x ∈ zgu, seen.contains x.born = true) ∨ ∃ x ∈ zgu, seen.contains x.born = false ∧ r = (D.tup [D.bool true, x.key, x.val], [(Nm.loc 18 0, Blk.miter gi (some (Nm.loc 16 0, gm)) 4 (seen ++ [x.born]) 4)]) := by
    rcases List.mem_append.1 hr with h | h
    · split at h
      · rename_i hn
        left
        refine ⟨by simpa using h, fun x hx => ?_⟩
        cases hs : seen.contains x.born with
        | true => rfl
        | false =>
          have hm : x ∈ (zgu.filter fun e => !seen.contains e.born).filter (fun e => decide (e.born < 4)) := by
           rw [List.mem_filter, List.mem_filter]
           refine ⟨⟨hx, by rw [hs]; rfl⟩, ?_⟩
           simp only [zgu, List.mem_cons, List.not_mem_nil, or_false] at hx
           rcases hx with rfl | rfl | rfl | rfl <;> rfl
          rw [List.isEmpty_iff] at hn
          rw [hn] at hm; simp at hm
      · simp at h
    · right
      rcases List.mem_append.1 h with h | h
      · obtain ⟨x, hx, rfl⟩ := List.mem_map.1 h
        have h3 := (List.mem_filter.1 (List.mem_filter.1 hx).1)
        exact ⟨x, h3.1, by simpa using h3.2, rfl⟩
      · obtain ⟨x, hx, rfl⟩ := List.mem_map.1 h
        have h3 := (List.mem_filter.1 (List.mem_filter.1 hx).1)
        exact ⟨x, h3.1, by simpa using h3.2, rfl⟩
   have hlt : ∀ x ∈ zgu, seen.contains x.born = false → (zgu.filter fun e => !(seen ++ [x.born]).contains e.born).length < j := by
    intro x hx hs
    have : (zgu.filter fun e => !(seen ++ [x.born]).contains e.born).length < (zgu.filter fun e => !seen.contains e.born).length := by
     refine zJY (fun y _ hy => ?_) ⟨x, hx, by rw [hs]; rfl, by simp⟩
     simp only [Bool.not_eq_true', List.contains_eq_mem, List.mem_append, decide_eq_false_iff_not, not_or] at hy ⊢
     exact hy.1
    omega
   have hse : ∀ x ∈ zgu, (∀ w, x.val = .str w → (zaP w c2.rest).1 = false) → ∀ y ∈ zgu, (seen ++ [x.born]).contains y.born = true → ∀ w, y.val = .str w → (zaP w c2.rest).1 = false := by
    intro x hx h1 y hy hc w hw
    simp only [List.contains_eq_mem, List.mem_append, decide_eq_true_eq, List.mem_singleton] at hc
    rcases hc with hc | hc
    · exact hseen y hy (by simpa using hc) w hw
    · have e : y = x := by
       simp only [zgu, List.mem_cons, List.not_mem_nil, or_false] at hx hy
       rcases hx with rfl | rfl | rfl | rfl <;> rcases hy with rfl | rfl | rfl | rfl <;> first | rfl | (exact absurd hc (by decide))
      subst e; exact h1 w hw
   clear hr
   rcases hr2 with ⟨rfl, hall⟩ | ⟨x, hx, hs, rfl⟩
   · simp -dsimp -implicitDefEqProofs only [go_sem, i0, i1, f1, f2, f3, f4, i4, i5, i6, i7, simprocAttr]
     have b0 := hseen _ (by simp [zgu]) (hall ⟨.int .i64 1, .str zeY, 0⟩ (by simp [zgu])) _ rfl
     have b1 := hseen _ (by simp [zgu]) (hall ⟨.int .i64 2, .str zeZ, 1⟩ (by simp [zgu])) _ rfl
     have b2 := hseen _ (by simp [zgu]) (hall ⟨.int .i64 3, .str zcZ, 2⟩ (by simp [zgu])) _ rfl
     have b3 := hseen _ (by simp [zgu]) (hall ⟨.int .i64 4, .str ziz, 3⟩ (by simp [zgu])) _ rfl
     refine hK c4.kind c2 (by unfold zq7; rw [zNz b0 b1 b2 b3]; rfl) _ _ ?_ ?_ ?_ ?_ ?_
     · simp -dsimp -implicitDefEqProofs only [go_sem, i0, i1, f1, f2, f3, f4, i4, i5, i6, i7, simprocAttr]
     · simp -dsimp -implicitDefEqProofs only [go_sem, i0, i1, f1, f2, f3, f4, i4, i5, i6, i7, simprocAttr]
     · simp -dsimp -implicitDefEqProofs only [go_sem, zci, i0, i1, f1, f2, f3, f4, i4, i5, i6, i7, simprocAttr]; exact ⟨_, rfl, rfl⟩
     · simp -dsimp -implicitDefEqProofs only [go_sem, zci, i0, i1, f1, f2, f3, f4, i4, i5, i6, i7, simprocAttr]; exact ⟨_, rfl, rfl⟩
     · simp -dsimp -implicitDefEqProofs only [go_sem, i0, i1, f1, f2, f3, f4, i4, i5, i6, i7, simprocAttr]
   · have hl := hlt x hx hs
     have hs2 := hse x hx
     simp only [zgu, List.mem_cons, List.not_mem_nil, or_false] at hx
     rcases hx with rfl | rfl | rfl | rfl
     · have tt : ∀ g0_, dfn cfg n 76 [(.ptr (.arg 0) g0_ 0 0), (.str zeY)] [.rows g0_ false true 1 [zae c2]] = some ⟨(.bool ((zaQ c2 zeY).1)), [.rows g0_ false true 1 [zae ((zaQ c2 zeY).2)]], []⟩ := t0
       cases hb : (zaP zeY c2.rest).1 with
       | true =>
         have hb : (zaQ c2 zeY).1 = true := hb
         simp -dsimp -implicitDefEqProofs only [go_sem, i0, i1, f1, f2, f3, f4, i4, i5, i6, i7, tt, hb, zg9, List.getLast?_append, List.getLast?_singleton, Option.some_or, Option.or_some, simprocAttr]
         refine hK 1 (zaQ c2 zeY).2 (by unfold zq7; rw [zNy hb]; rfl) _ _ ?_ ?_ ?_ ?_ ?_
         · simp -dsimp -implicitDefEqProofs only [go_sem, i0, i1, f1, f2, f3, f4, i4, i5, i6, i7, tt, hb, zg9, List.getLast?_append, List.getLast?_singleton, Option.some_or, Option.or_some, simprocAttr]
         · simp -dsimp -implicitDefEqProofs only [go_sem, i0, i1, f1, f2, f3, f4, i4, i5, i6, i7, tt, hb, zg9, List.getLast?_append, List.getLast?_singleton, Option.some_or, Option.or_some, simprocAttr]
         · simp -dsimp -implicitDefEqProofs only [go_sem, zci, i0, i1, f1, f2, f3, f4, i4, i5, i6, i7, tt, hb, zg9, List.getLast?_append, List.getLast?_singleton, Option.some_or, Option.or_some, simprocAttr]; exact ⟨_, rfl, rfl⟩
         · simp -dsimp -implicitDefEqProofs only [go_sem, zci, i0, i1, f1, f2, f3, f4, i4, i5, i6, i7, tt, hb, zg9, List.getLast?_append, List.getLast?_singleton, Option.some_or, Option.or_some, simprocAttr]; exact ⟨_, rfl, rfl⟩
         · simp -dsimp -implicitDefEqProofs only [go_sem, i0, i1, f1, f2, f3, f4, i4, i5, i6, i7, tt, hb, zg9, List.getLast?_append, List.getLast?_singleton, Option.some_or, Option.or_some, simprocAttr]
       | false =>
         have hs2 := hs2 (fun w hw => by cases hw; exact hb)
         have hb := zA0 hb
         simp -dsimp -implicitDefEqProofs only [go_sem, i0, i1, f1, f2, f3, f4, i4, i5, i6, i7, tt, hb, zg9, List.getLast?_append, List.getLast?_singleton, Option.some_or, Option.or_some, simprocAttr]
         refine zah (ih _ hl hs2 k (by omega) _ _ ?_ ?_ ?_ ?_ ?_ ?_ ?_ ?_)
         · simp -dsimp -implicitDefEqProofs only [go_sem, i0, i1, f1, f2, f3, f4, i4, i5, i6, i7, tt, hb, zg9, List.getLast?_append, List.getLast?_singleton, Option.some_or, Option.or_some, simprocAttr]
         · simp -dsimp -implicitDefEqProofs only [go_sem, i0, i1, f1, f2, f3, f4, i4, i5, i6, i7, tt, hb, zg9, List.getLast?_append, List.getLast?_singleton, Option.some_or, Option.or_some, simprocAttr]
         · simp -dsimp -implicitDefEqProofs only [go_sem, zci, i0, i1, f1, f2, f3, f4, i4, i5, i6, i7, tt, hb, zg9, List.getLast?_append, List.getLast?_singleton, Option.some_or, Option.or_some, simprocAttr]; exact ⟨_, rfl, rfl⟩
         · simp -dsimp -implicitDefEqProofs only [go_sem, zci, i0, i1, f1, f2, f3, f4, i4, i5, i6, i7, tt, hb, zg9, List.getLast?_append, List.getLast?_singleton, Option.some_or, Option.or_some, simprocAttr]; exact ⟨_, rfl, rfl⟩
         · simp -dsimp -implicitDefEqProofs only [go_sem, i0, i1, f1, f2, f3, f4, i4, i5, i6, i7, tt, hb, zg9, List.getLast?_append, List.getLast?_singleton, Option.some_or, Option.or_some, simprocAttr]
         · simp -dsimp -implicitDefEqProofs only [go_sem, i0, i1, f1, f2, f3, f4, i4, i5, i6, i7, tt, hb, zg9, List.getLast?_append, List.getLast?_singleton, Option.some_or, Option.or_some, simprocAttr]
         · simp -dsimp -implicitDefEqProofs only [go_sem, i0, i1, f1, f2, f3, f4, i4, i5, i6, i7, tt, hb, zg9, List.getLast?_append, List.getLast?_singleton, Option.some_or, Option.or_some, simprocAttr]
         · simp -dsimp -implicitDefEqProofs only [go_sem, i0, i1, f1, f2, f3, f4, i4, i5, i6, i7, tt, hb, zg9, List.getLast?_append, List.getLast?_singleton, Option.some_or, Option.or_some, simprocAttr]
     · have tt : ∀ g0_, dfn cfg n 76 [(.ptr (.arg 0) g0_ 0 0), (.str zeZ)] [.rows g0_ false true 1 [zae c2]] = some ⟨(.bool ((zaQ c2 zeZ).1)), [.rows g0_ false true 1 [zae ((zaQ c2 zeZ).2)]], []⟩ := t1
       cases hb : (zaP zeZ c2.rest).1 with
       | true =>
         have hb : (zaQ c2 zeZ).1 = true := hb
         simp -dsimp -implicitDefEqProofs only [go_sem, i0, i1, f1, f2, f3, f4, i4, i5, i6, i7, tt, hb, zg8, List.getLast?_append, List.getLast?_singleton, Option.some_or, Option.or_some, simprocAttr]
         refine hK 2 (zaQ c2 zeZ).2 (by unfold zq7; rw [zNx hb]; rfl) _ _ ?_ ?_ ?_ ?_ ?_
         · simp -dsimp -implicitDefEqProofs only [go_sem, i0, i1, f1, f2, f3, f4, i4, i5, i6, i7, tt, hb, zg8, List.getLast?_append, List.getLast?_singleton, Option.some_or, Option.or_some, simprocAttr]
         · simp -dsimp -implicitDefEqProofs only [go_sem, i0, i1, f1, f2, f3, f4, i4, i5, i6, i7, tt, hb, zg8, List.getLast?_append, List.getLast?_singleton, Option.some_or, Option.or_some, simprocAttr]
         · simp -dsimp -implicitDefEqProofs only [go_sem, zci, i0, i1, f1, f2, f3, f4, i4, i5, i6, i7, tt, hb, zg8, List.getLast?_append, List.getLast?_singleton, Option.some_or, Option.or_some, simprocAttr]; exact ⟨_, rfl, rfl⟩
         · simp -dsimp -implicitDefEqProofs only [go_sem, zci, i0, i1, f1, f2, f3, f4, i4, i5, i6, i7, tt, hb, zg8, List.getLast?_append, List.getLast?_singleton, Option.some_or, Option.or_some, simprocAttr]; exact ⟨_, rfl, rfl⟩
         · simp -dsimp -implicitDefEqProofs only [go_sem, i0, i1, f1, f2, f3, f4, i4, i5, i6, i7, tt, hb, zg8, List.getLast?_append, List.getLast?_singleton, Option.some_or, Option.or_some, simprocAttr]
       | false =>
         have hs2 := hs2 (fun w hw => by cases hw; exact hb)
         have hb := zA0 hb
         simp -dsimp -implicitDefEqProofs only [go_sem, i0, i1, f1, f2, f3, f4, i4, i5, i6, i7, tt, hb, zg8, List.getLast?_append, List.getLast?_singleton, Option.some_or, Option.or_some, simprocAttr]
         refine zah (ih _ hl hs2 k (by omega) _ _ ?_ ?_ ?_ ?_ ?_ ?_ ?_ ?_)
         · simp -dsimp -implicitDefEqProofs only [go_sem, i0, i1, f1, f2, f3, f4, i4, i5, i6, i7, tt, hb, zg8, List.getLast?_append, List.getLast?_singleton, Option.some_or, Option.or_some, simprocAttr]
         · simp -dsimp -implicitDefEqProofs only [go_sem, i0, i1, f1, f2, f3, f4, i4, i5, i6, i7, tt, hb, zg8, List.getLast?_append, List.getLast?_singleton, Option.some_or, Option.or_some, simprocAttr]
         · simp -dsimp -implicitDefEqProofs only [go_sem, zci, i0, i1, f1, f2, f3, f4, i4, i5, i6, i7, tt, hb, zg8, List.getLast?_append, List.getLast?_singleton, Option.some_or, Option.or_some, simprocAttr]; exact ⟨_, rfl, rfl⟩
         · simp -dsimp -implicitDefEqProofs only [go_sem, zci, i0, i1, f1, f2, f3, f4, i4, i5, i6, i7, tt, hb, zg8, List.getLast?_append, List.getLast?_singleton, Option.some_or, Option.or_some, simprocAttr]; exact ⟨_, rfl, rfl⟩
         · simp -dsimp -implicitDefEqProofs only [go_sem, i0, i1, f1, f2, f3, f4, i4, i5, i6, i7, tt, hb, zg8, List.getLast?_append, List.getLast?_singleton, Option.some_or, Option.or_some, simprocAttr]
         · simp -dsimp -implicitDefEqProofs only [go_sem, i0, i1, f1, f2, f3, f4, i4, i5, i6, i7, tt, hb, zg8, List.getLast?_append, List.getLast?_singleton, Option.some_or, Option.or_some, simprocAttr]
         · simp -dsimp -implicitDefEqProofs only [go_sem, i0, i1, f1, f2, f3, f4, i4, i5, i6, i7, tt, hb, zg8, List.getLast?_append, List.getLast?_singleton, Option.some_or, Option.or_some, simprocAttr]
         · simp -dsimp -implicitDefEqProofs only [go_sem, i0, i1, f1, f2, f3, f4, i4, i5, i6, i7, tt, hb, zg8, List.getLast?_append, List.getLast?_singleton, Option.some_or, Option.or_some, simprocAttr]
     · have tt : ∀ g0_, dfn cfg n 76 [(.ptr (.arg 0) g0_ 0 0), (.str zcZ)] [.rows g0_ false true 1 [zae c2]] = some ⟨(.bool ((zaQ c2 zcZ).1)), [.rows g0_ false true 1 [zae ((zaQ c2 zcZ).2)]], []⟩ := t2
       cases hb : (zaP zcZ c2.rest).1 with
       | true =>
         have hb : (zaQ c2 zcZ).1 = true := hb
         simp -dsimp -implicitDefEqProofs only [go_sem, i0, i1, f1, f2, f3, f4, i4, i5, i6, i7, tt, hb, zg7, List.getLast?_append, List.getLast?_singleton, Option.some_or, Option.or_some, simprocAttr]
         refine hK 3 (zaQ c2 zcZ).2 (by unfold zq7; rw [zNw hb]; rfl) _ _ ?_ ?_ ?_ ?_ ?_
         · simp -dsimp -implicitDefEqProofs only [go_sem, i0, i1, f1, f2, f3, f4, i4, i5, i6, i7, tt, hb, zg7, List.getLast?_append, List.getLast?_singleton, Option.some_or, Option.or_some, simprocAttr]
         · simp -dsimp -implicitDefEqProofs only [go_sem, i0, i1, f1, f2, f3, f4, i4, i5, i6, i7, tt, hb, zg7, List.getLast?_append, List.getLast?_singleton, Option.some_or, Option.or_some, simprocAttr]
         · simp -dsimp -implicitDefEqProofs only [go_sem, zci, i0, i1, f1, f2, f3, f4, i4, i5, i6, i7, tt, hb, zg7, List.getLast?_append, List.getLast?_singleton, Option.some_or, Option.or_some, simprocAttr]; exact ⟨_, rfl, rfl⟩
         · simp -dsimp -implicitDefEqProofs only [go_sem, zci, i0, i1, f1, f2, f3, f4, i4, i5, i6, i7, tt, hb, zg7, List.getLast?_append, List.getLast?_singleton, Option.some_or, Option.or_some, simprocAttr]; exact ⟨_, rfl, rfl⟩
         · simp -dsimp -implicitDefEqProofs only [go_sem, i0, i1, f1, f2, f3, f4, i4, i5, i6, i7, tt, hb, zg7, List.getLast?_append, List.getLast?_singleton, Option.some_or, Option.or_some, simprocAttr]
       | false =>
         have hs2 := hs2 (fun w hw => by cases hw; exact hb)
         have hb := zA0 hb
         simp -dsimp -implicitDefEqProofs only [go_sem, i0, i1, f1, f2, f3, f4, i4, i5, i6, i7, tt, hb, zg7, List.getLast?_append, List.getLast?_singleton, Option.some_or, Option.or_some, simprocAttr]
         refine zah (ih _ hl hs2 k (by omega) _ _ ?_ ?_ ?_ ?_ ?_ ?_ ?_ ?_)
         · simp -dsimp -implicitDefEqProofs only [go_sem, i0, i1, f1, f2, f3, f4, i4, i5, i6, i7, tt, hb, zg7, List.getLast?_append, List.getLast?_singleton, Option.some_or, Option.or_some, simprocAttr]
         · simp -dsimp -implicitDefEqProofs only [go_sem, i0, i1, f1, f2, f3, f4, i4, i5, i6, i7, tt, hb, zg7, List.getLast?_append, List.getLast?_singleton, Option.some_or, Option.or_some, simprocAttr]
         · simp -dsimp -implicitDefEqProofs only [go_sem, zci, i0, i1, f1, f2, f3, f4, i4, i5, i6, i7, tt, hb, zg7, List.getLast?_append, List.getLast?_singleton, Option.some_or, Option.or_some, simprocAttr]; exact ⟨_, rfl, rfl⟩
         · simp -dsimp -implicitDefEqProofs only [go_sem, zci, i0, i1, f1, f2, f3, f4, i4, i5, i6, i7, tt, hb, zg7, List.getLast?_append, List.getLast?_singleton, Option.some_or, Option.or_some, simprocAttr]; exact ⟨_, rfl, rfl⟩
         · simp -dsimp -implicitDefEqProofs only [go_sem, i0, i1, f1, f2, f3, f4, i4, i5, i6, i7, tt, hb, zg7, List.getLast?_append, List.getLast?_singleton, Option.some_or, Option.or_some, simprocAttr]
         · simp -dsimp -implicitDefEqProofs only [go_sem, i0, i1, f1, f2, f3, f4, i4, i5, i6, i7, tt, hb, zg7, List.getLast?_append, List.getLast?_singleton, Option.some_or, Option.or_some, simprocAttr]
         · simp -dsimp -implicitDefEqProofs only [go_sem, i0, i1, f1, f2, f3, f4, i4, i5, i6, i7, tt, hb, zg7, List.getLast?_append, List.getLast?_singleton, Option.some_or, Option.or_some, simprocAttr]
         · simp -dsimp -implicitDefEqProofs only [go_sem, i0, i1, f1, f2, f3, f4, i4, i5, i6, i7, tt, hb, zg7, List.getLast?_append, List.getLast?_singleton, Option.some_or, Option.or_some, simprocAttr]
     · have tt : ∀ g0_, dfn cfg n 76 [(.ptr (.arg 0) g0_ 0 0), (.str ziz)] [.rows g0_ false true 1 [zae c2]] = some ⟨(.bool ((zaQ c2 ziz).1)), [.rows g0_ false true 1 [zae ((zaQ c2 ziz).2)]], []⟩ := t3
       cases hb : (zaP ziz c2.rest).1 with
       | true =>
         have hb : (zaQ c2 ziz).1 = true := hb
         simp -dsimp -implicitDefEqProofs only [go_sem, i0, i1, f1, f2, f3, f4, i4, i5, i6, i7, tt, hb, zg6, List.getLast?_append, List.getLast?_singleton, Option.some_or, Option.or_some, simprocAttr]
         refine hK 4 (zaQ c2 ziz).2 (by unfold zq7; rw [zNv hb]; rfl) _ _ ?_ ?_ ?_ ?_ ?_
         · simp -dsimp -implicitDefEqProofs only [go_sem, i0, i1, f1, f2, f3, f4, i4, i5, i6, i7, tt, hb, zg6, List.getLast?_append, List.getLast?_singleton, Option.some_or, Option.or_some, simprocAttr]
         · simp -dsimp -implicitDefEqProofs only [go_sem, i0, i1, f1, f2, f3, f4, i4, i5, i6, i7, tt, hb, zg6, List.getLast?_append, List.getLast?_singleton, Option.some_or, Option.or_some, simprocAttr]
         · simp -dsimp -implicitDefEqProofs only [go_sem, zci, i0, i1, f1, f2, f3, f4, i4, i5, i6, i7, tt, hb, zg6, List.getLast?_append, List.getLast?_singleton, Option.some_or, Option.or_some, simprocAttr]; exact ⟨_, rfl, rfl⟩
         · simp -dsimp -implicitDefEqProofs only [go_sem, zci, i0, i1, f1, f2, f3, f4, i4, i5, i6, i7, tt, hb, zg6, List.getLast?_append, List.getLast?_singleton, Option.some_or, Option.or_some, simprocAttr]; exact ⟨_, rfl, rfl⟩
         · simp -dsimp -implicitDefEqProofs only [go_sem, i0, i1, f1, f2, f3, f4, i4, i5, i6, i7, tt, hb, zg6, List.getLast?_append, List.getLast?_singleton, Option.some_or, Option.or_some, simprocAttr]
       | false =>
         have hs2 := hs2 (fun w hw => by cases hw; exact hb)
         have hb := zA0 hb
         simp -dsimp -implicitDefEqProofs only [go_sem, i0, i1, f1, f2, f3, f4, i4, i5, i6, i7, tt, hb, zg6, List.getLast?_append, List.getLast?_singleton, Option.some_or, Option.or_some, simprocAttr]
         refine zah (ih _ hl hs2 k (by omega) _ _ ?_ ?_ ?_ ?_ ?_ ?_ ?_ ?_)
         · simp -dsimp -implicitDefEqProofs only [go_sem, i0, i1, f1, f2, f3, f4, i4, i5, i6, i7, tt, hb, zg6, List.getLast?_append, List.getLast?_singleton, Option.some_or, Option.or_some, simprocAttr]
         · simp -dsimp -implicitDefEqProofs only [go_sem, i0, i1, f1, f2, f3, f4, i4, i5, i6, i7, tt, hb, zg6, List.getLast?_append, List.getLast?_singleton, Option.some_or, Option.or_some, simprocAttr]
         · simp -dsimp -implicitDefEqProofs only [go_sem, zci, i0, i1, f1, f2, f3, f4, i4, i5, i6, i7, tt, hb, zg6, List.getLast?_append, List.getLast?_singleton, Option.some_or, Option.or_some, simprocAttr]; exact ⟨_, rfl, rfl⟩
         · simp -dsimp -implicitDefEqProofs only [go_sem, zci, i0, i1, f1, f2, f3, f4, i4, i5, i6, i7, tt, hb, zg6, List.getLast?_append, List.getLast?_singleton, Option.some_or, Option.or_some, simprocAttr]; exact ⟨_, rfl, rfl⟩
         · simp -dsimp -implicitDefEqProofs only [go_sem, i0, i1, f1, f2, f3, f4, i4, i5, i6, i7, tt, hb, zg6, List.getLast?_append, List.getLast?_singleton, Option.some_or, Option.or_some, simprocAttr]
         · simp -dsimp -implicitDefEqProofs only [go_sem, i0, i1, f1, f2, f3, f4, i4, i5, i6, i7, tt, hb, zg6, List.getLast?_append, List.getLast?_singleton, Option.some_or, Option.or_some, simprocAttr]
         · simp -dsimp -implicitDefEqProofs only [go_sem, i0, i1, f1, f2, f3, f4, i4, i5, i6, i7, tt, hb, zg6, List.getLast?_append, List.getLast?_singleton, Option.some_or, Option.or_some, simprocAttr]
         · simp -dsimp -implicitDefEqProofs only [go_sem, i0, i1, f1, f2, f3, f4, i4, i5, i6, i7, tt, hb, zg6, List.getLast?_append, List.getLast?_singleton, Option.some_or, Option.or_some, simprocAttr]
end Go.Proofs.Tryz
set_option maxRecDepth 100000
set_option maxHeartbeats 4000000
set_option linter.unusedSimpArgs false
set_option linter.unusedVariables false
namespace Go.Proofs.Tryz
open Go.Ev
def zdB (c1 : Int) (g0_ : Nat) (K : Ex → St → Option Res) (R : Option Res) : Out ((Sl zal) × Bool × zab) (List zal × zab) → Prop
 | .ret r => ∀ (e : Env) (m : Mem), zFD (e 4) m [24] 2 zap r.1 → e 5 = (.bool r.2.1) → m (.arg 0) = some (.rows g0_ false true 1 [zae r.2.2]) → K .ret ⟨e, m⟩ = R
 | .done q => False
noncomputable def zj3 : Code := zbq f27 [1, 1, 1, 1, 0, 0]
abbrev zwH (sz : Nat) : Prop := (∀ (a : zab) (b : Int), (a.rest.length < lim ∧ -1 ≤ b ∧ b ≤ 8 ∧ 4 * (b + 1).toNat + 3 < sz) → ∃ N, ∀ n, N ≤ n → ∀ g0_, dfn cfg n 27 [(.ptr (.arg 0) g0_ 0 0), (.int .i64 b)] [.rows g0_ false true 1 [zae a]] = some ⟨(.tup [(dSl zap ((zc0 a b).1)), (.bool ((zc0 a b).2.1))]), [.rows g0_ false true 1 [zae ((zc0 a b).2.2)]], []⟩) ∧ (∀ (a : zab) (b : Int), (a.rest.length < lim ∧ 0 ≤ b ∧ b ≤ 8 ∧ 4 * (b + 1).toNat + 2 < sz) → ∃ N, ∀ n, N ≤ n → ∀ g0_, dfn cfg n 77 [(.ptr (.arg 0) g0_ 0 0), (.int .i64 b)] [.rows g0_ false true 1 [zae a]] = some ⟨(.tup [(.agg (zap ((zmZ a b).1))), (.bool ((zmZ a b).2.1))]), [.rows g0_ false true 1 [zae ((zmZ a b).2.2)]], []⟩) ∧ (∀ (a : zab) (b : Int), (a.rest.length < lim ∧ 0 ≤ b ∧ b ≤ 8 ∧ 4 * (b + 1).toNat + 1 < sz) → ∃ N, ∀ n, N ≤ n → ∀ g0_, dfn cfg n 121 [(.ptr (.arg 0) g0_ 0 0), (.int .i64 b)] [.rows g0_ false true 1 [zae a]] = some ⟨(.tup [(.agg (zbj ((zgs a b).1))), (.bool ((zgs a b).2.1))]), [.rows g0_ false true 1 [zae ((zgs a b).2.2)]], []⟩) ∧ (∀ (a : zab) (b : zan) (c : Int), (a.rest.length < lim ∧ b = zan.zero.setKind 4 ∧ 0 ≤ c ∧ c ≤ 8 ∧ 4 * (c + 1).toNat < sz) → ∃ N, ∀ n, N ≤ n → ∃ γ_ : Nat → Nat → Nat, ∀ g0_ g1_,  dfn cfg n 148 [(.ptr (.arg 0) g0_ 0 0), (.ptr (.arg 1) g1_ 0 0), (.int .i64 c)] [.rows g0_ false true 1 [zae a], .rows g1_ false true 10 [zbj (b.setItems Sl.nil)]] = some ⟨(.bool ((zdo a b c).1)), [.rows g0_ false true 1 [zae ((zdo a b c).2.1)], .rows g1_ false (zOv (((zdo a b c).2.2).items.l)) 10 [[(.int .i64 (((zdo a b c).2.2).kind)), (.int .i64 ((((zdo a b c).2.2).row).table)), (.int .i64 ((((zdo a b c).2.2).row).seq)), (dSl (cSl zap) (((zdo a b c).2.2).args)), (.int .i64 (((zdo a b c).2.2).func)), (zL6 (((zdo a b c).2.2).items.l) (γ_ g0_ g1_)), (.int .i64 (((zdo a b c).2.2).op)), (.int .i64 ((((zdo a b c).2.2).bound).kind)), (.int .i64 ((((zdo a b c).2.2).bound).int)), (.str ((((zdo a b c).2.2).bound).text))]]], zL7 (γ_ g0_ g1_) 4 zao (((zdo a b c).2.2).items.l)⟩)
theorem zjE {c1 : Int} {sz : Nat} (hg : zwH sz) {kk : Nat} : ∀ {k : Nat} {s2 : List zal} {s3 : zab} {out : Out ((Sl zal) × Bool × zab) (List zal × zab)}, zbL c1 sz kk k s2 s3 = some out → ∃ N, ∀ n, N ≤ n → ∀ k, N ≤ k → ∀ g0_, ∀ (e : Env) (m : Mem), e 0 = .ptr (.arg 0) g0_ 0 0 → e 1 = (.int .i64 c1) → zuH (e 6) m [24] 2 zap s2 → m (.arg 0) = some (.rows g0_ false true 1 [zae s3]) → ∀ (K : Ex → St → Option Res) (R : Option Res), zdB c1 g0_ K R out → zcj (zbH cfg (dfn cfg n) n zj3) K k ⟨e, m⟩ = R := by
 have ⟨_, hT, _, _⟩ := hg
 intro k
 induction k with
 | zero => intro s2 s3 out h; cases h
 | succ k ih => ?_
 intro s2 s3 out h
 have ih := fun x0 x1 {out} => @ih x0 x1 out
 unfold zbL at h
 have E := evT
 obtain ⟨_, h1_, h⟩ := zaa h
 have E := E.and (hT s3 c1 (zag h1_))
 rcases zac h with ⟨h2_, h⟩ | ⟨h2_, h⟩
 have b3_ := zaq h2_
 rotate_left
 have b4_ := zam h2_
 obtain ⟨_, h5_, h⟩ := zaa h
 have h5_ := zag h5_
 try simp -dsimp -implicitDefEqProofs only [go_sem, simprocAttr] at h5_
 have E := E.and (zay ((zmZ s3 c1).2.2) [32, 43, 32])
 rcases zac h with ⟨h6_, h⟩ | ⟨h6_, h⟩
 have b7_ := zaq h6_
 rotate_left
 have b8_ := zam h6_
 rotate_left
 all_goals
  first | (obtain rfl := Option.some.inj h; refine E.l fun n k x => ?_) | refine E.c (ih _ _ h) fun n k x I => ?_
  intro g0_ e m i0 i1 i2 i3 K R hK
  rcases zt2 i2 with ⟨_, _⟩ | ⟨_, _, _, _⟩ <;> (rw [zau]; (conv => lhs; arg 4; whnf); (first | (simp -dsimp -implicitDefEqProofs only [go_sem, *, simprocAttr]; simp only [zdB] at hK; refine hK _ _ ?_ ?_ ?_; (iterate 3 (simp -dsimp -implicitDefEqProofs only [go_sem, *, simprocAttr]))) | (simp -dsimp -implicitDefEqProofs only [go_sem, *, simprocAttr]; refine zah (I.1 g0_ _ _ ?_ ?_ ?_ ?_ _ _ hK); (iterate 4 (simp -dsimp -implicitDefEqProofs only [go_sem, *, simprocAttr])))))
theorem zkL {kk : Nat} {a : zab} {b : Int} {sz : Nat} (hg : zwH sz) {r : (Sl zal) × Bool × zab} (h : zc6 kk sz a b = some r) : ∃ N, ∀ n, N ≤ n → ∀ g0_, dfn cfg n 27 [(.ptr (.arg 0) g0_ 0 0), (.int .i64 b)] [.rows g0_ false true 1 [zae a]] = some ⟨(.tup [(dSl zap r.1), (.bool r.2.1)]), [.rows g0_ false true 1 [zae r.2.2]], []⟩ := by
 unfold zc6 at h
 have E := evT
 rcases zac h with ⟨h9_, h⟩ | ⟨h9_, h⟩
 rotate_left
 have E := E.and (zay a [48])
 rcases zac h with ⟨h10_, h⟩ | ⟨h10_, h⟩
 rotate_left
 rcases zaz h with ⟨r13_, o12_, h⟩ | ⟨q6, o12_, h⟩
 obtain ⟨_, l11_, E⟩ := E.lp (zjE hg o12_)
 rotate_left
 cases h
 all_goals
  obtain rfl := Option.some.inj h
  refine E.s fun n x g0_ => ?_
  first | (have := l11_; simp -dsimp -implicitDefEqProofs only [go_sem, func27, f27, *, simprocAttr]; refine zah (l11_.1 n (by omega) g0_ _ _ ?_ ?_ ?_ ?_ _ _ ?_); (iterate 4 (simp -dsimp -implicitDefEqProofs only [go_sem, *, simprocAttr])); simp only [zdB]; intro e m i0 i1 i2; rcases zJK i0 with _ | ⟨lr0, _, _, _, _⟩ <;> (simp -dsimp -implicitDefEqProofs only [go_sem, func27, f27, *, simprocAttr] <;> simp -dsimp -implicitDefEqProofs only [go_sem, func27, f27, zgf, *, simprocAttr])) | (simp -dsimp -implicitDefEqProofs only [go_sem, func27, f27, *, simprocAttr] <;> simp -dsimp -implicitDefEqProofs only [go_sem, func27, f27, zgf, *, simprocAttr])
def zfK (c14 : Int) (c16 : zal) (g0_ : Nat) (K : Ex → St → Option Res) (R : Option Res) : Out (zal × Bool × zab) (zab × zal × List zai) → Prop
 | .ret r => ∀ (e : Env) (m : Mem), zGL (e 4) m 4 2 (fun d => [(.int .i64 r.1.coeff), d]) [80] 11 zar r.1.factors → e 5 = (.bool r.2.1) → m (.arg 0) = some (.rows g0_ false true 1 [zae r.2.2]) → K .ret ⟨e, m⟩ = R
 | .done q => False
noncomputable def zmC : Code := zbq f77 [1, 1, 1, 0, 0]
theorem zmn {c14 : Int} {c16 : zal} {sz : Nat} (hg : zwH sz) {kk : Nat} : ∀ {k : Nat} {s15 : zab} {s17 : zal} {s18 : List zai} {out : Out (zal × Bool × zab) (zab × zal × List zai)}, zbY c14 c16 sz kk k s15 s17 s18 = some out → ∃ N, ∀ n, N ≤ n → ∀ k, N ≤ k → ∀ g0_, ∀ (e : Env) (m : Mem), e 0 = .ptr (.arg 0) g0_ 0 0 → e 1 = (.int .i64 c14) → zci (e 4) m 4 2 (zap c16) → zKL (e 6) m 6 2 (fun d => [(.int .i64 s17.coeff), d]) [80] 11 zar s18 → m (.arg 0) = some (.rows g0_ false true 1 [zae s15]) → ∀ (K : Ex → St → Option Res) (R : Option Res), zfK c14 c16 g0_ K R out → zcj (zbH cfg (dfn cfg n) n zmC) K k ⟨e, m⟩ = R := by
 have ⟨_, _, hX, _⟩ := hg
 intro k
 induction k with
 | zero => intro s15 s17 s18 out h; cases h
 | succ k ih => ?_
 intro s15 s17 s18 out h
 have ih := fun x0 x1 x2 {out} => @ih x0 x1 x2 out
 unfold zbY at h
 have E := evT
 obtain ⟨_, h1_, h⟩ := zaa h
 have E := E.and (hX s15 c14 (zag h1_))
 rcases zac h with ⟨h2_, h⟩ | ⟨h2_, h⟩
 have E := E.and (zay ((zgs s15 c14).2.2) [94])
 rcases zac h with ⟨h3_, h⟩ | ⟨h3_, h⟩
 obtain ⟨_, h4_, h⟩ := zaa h
 have E := E.and (ziy ((zaQ ((zgs s15 c14).2.2) [94]).2) (zag h4_))
 rcases zac h with ⟨h5_, h⟩ | ⟨h5_, h⟩
 have b6_ := zaq h5_
 rotate_left
 have b7_ := zam h5_
 obtain ⟨_, h8_, h⟩ := zaa h
 have h8_ := zag h8_
 try simp -dsimp -implicitDefEqProofs only [go_sem, simprocAttr] at h8_
 have E := E.and (zay ((zk1 ((zaQ ((zgs s15 c14).2.2) [94]).2)).2.2) [42])
 rcases zac h with ⟨h9_, h⟩ | ⟨h9_, h⟩
 have b10_ := zaq h9_
 rotate_left
 have b11_ := zam h9_
 rotate_left
 obtain ⟨_, h12_, h⟩ := zaa h
 have h12_ := zag h12_
 try simp -dsimp -implicitDefEqProofs only [go_sem, simprocAttr] at h12_
 have E := E.and (zay ((zaQ ((zgs s15 c14).2.2) [94]).2) [42])
 rcases zac h with ⟨h13_, h⟩ | ⟨h13_, h⟩
 have b14_ := zaq h13_
 rotate_left
 have b15_ := zam h13_
 rotate_left
 rotate_left
 all_goals
  first | (obtain rfl := Option.some.inj h; refine E.l fun n k x => ?_) | refine E.c (ih _ _ _ h) fun n k x I => ?_
  intro g0_ e m i0 i1 i2 i3 i4 K R hK
  obtain ⟨_, _, _⟩ := i2
  obtain ⟨_, _, _, _, _, i3⟩ := i3
  rcases zt2 i3 with ⟨_, _⟩ | ⟨_, _, _, _⟩ <;> (rw [zau]; (conv => lhs; arg 4; whnf); (first | (simp -dsimp -implicitDefEqProofs only [go_sem, *, simprocAttr]; simp only [zfK] at hK; refine hK _ _ ?_ ?_ ?_; (iterate 3 (first | (focus (simp -dsimp -implicitDefEqProofs only [go_sem, *, simprocAttr]; done)) | (unfold zGL; simp -dsimp -implicitDefEqProofs only [go_sem, zgf, *, simprocAttr]; refine ⟨_, _, _, rfl, rfl, ?_⟩; simp -dsimp -implicitDefEqProofs only [go_sem, zgf, *, simprocAttr])))) | (simp -dsimp -implicitDefEqProofs only [go_sem, *, simprocAttr]; refine zah (I.1 g0_ _ _ ?_ ?_ ?_ ?_ ?_ _ _ hK); (iterate 5 (first | (focus (simp -dsimp -implicitDefEqProofs only [go_sem, *, simprocAttr]; done)) | (unfold zKL; simp -dsimp -implicitDefEqProofs only [go_sem, zgf, *, simprocAttr]; refine ⟨_, _, _, rfl, rfl, ?_⟩; simp -dsimp -implicitDefEqProofs only [go_sem, zgf, *, simprocAttr]))))))
def zcK (c7 : Int) (c8 : Bool) (c9 : zab) (c10 : zal) (c11 : zal) (g0_ : Nat) (K : Ex → St → Option Res) (R : Option Res) : Out (zal × Bool × zab) (zab × Int) → Prop
 | .ret r => ∀ (e : Env) (m : Mem), zGL (e 4) m 4 2 (fun d => [(.int .i64 r.1.coeff), d]) [80] 11 zar r.1.factors → e 5 = (.bool r.2.1) → m (.arg 0) = some (.rows g0_ false true 1 [zae r.2.2]) → K .ret ⟨e, m⟩ = R
 | .done q => ∀ (e : Env) (m : Mem), e 0 = .ptr (.arg 0) g0_ 0 0 → e 1 = (.int .i64 c7) → zci (e 4) m 4 2 (zap c10) → zci (e 6) m 6 2 (zap (c11.setCoeff q.2)) → m (.arg 0) = some (.rows g0_ false true 1 [zae q.1]) → K .normal ⟨e, m⟩ = R
noncomputable def zh5 : Code := zbq f77 [1, 1, 0, 1]
theorem zh0 {c7 : Int} {c8 : Bool} {c9 : zab} {c10 : zal} {c11 : zal} {sz : Nat} (hg : zwH sz) {kk : Nat} {out : Out (zal × Bool × zab) (zab × Int)} (h : zdO c7 c8 c9 c10 c11 sz kk = some out) : ∃ N, ∀ n, N ≤ n → ∀ g0_, ∀ (e : Env) (m : Mem), e 0 = .ptr (.arg 0) g0_ 0 0 → e 1 = (.int .i64 c7) → zci (e 4) m 4 2 (zap c10) → zci (e 6) m 6 2 (zap c11) → e 35 = (.bool (c8)) → m (.arg 0) = some (.rows g0_ false true 1 [zae c9]) → ∀ (K : Ex → St → Option Res) (R : Option Res), zcK c7 c8 c9 c10 c11 g0_ K R out → zbH cfg (dfn cfg n) n zh5 K ⟨e, m⟩ = R := by
 unfold zdO at h
 have E := evT
 rcases zac h with ⟨h16_, h⟩ | ⟨h16_, h⟩
 obtain ⟨_, h17_, h⟩ := zaa h
 have E := E.and (ziy c9 (zag h17_))
 rcases zac h with ⟨h18_, h⟩ | ⟨h18_, h⟩
 have b19_ := zaq h18_
 have b20_ := zam b19_
 have E := E.and (zay ((zk1 c9).2.2) [42])
 rcases zac h with ⟨h21_, h⟩ | ⟨h21_, h⟩
 have b22_ := zaq h21_
 rotate_left
 have b23_ := zam h21_
 rotate_left
 have b24_ := zam h18_
 have b25_ := zaq b24_
 rotate_left
 rotate_left
 all_goals
  obtain rfl := Option.some.inj h
  refine E.j fun n x => ?_
  intro g0_ e m i0 i1 i2 i3 i4 i5 K R hK
  obtain ⟨_, _, _⟩ := i2
  obtain ⟨_, _, _⟩ := i3
  (conv => lhs; arg 4; whnf)
  first | (simp -dsimp -implicitDefEqProofs only [go_sem, *, simprocAttr]; simp only [zcK] at hK; refine hK _ _ ?_ ?_ ?_; (iterate 3 (first | (focus (simp -dsimp -implicitDefEqProofs only [go_sem, *, simprocAttr]; done)) | (unfold zGL; simp -dsimp -implicitDefEqProofs only [go_sem, zgf, *, simprocAttr]; refine ⟨_, _, _, rfl, rfl, ?_⟩; simp -dsimp -implicitDefEqProofs only [go_sem, zgf, *, simprocAttr])))) | (simp -dsimp -implicitDefEqProofs only [go_sem, *, simprocAttr]; simp only [zcK] at hK; refine hK _ _ ?_ ?_ ?_ ?_ ?_; (iterate 5 (simp -dsimp -implicitDefEqProofs only [go_sem, *, simprocAttr])))
def zfL (c1 : Int) (c2 : zab) (c3 : zal) (c4 : zal) (g0_ : Nat) (K : Ex → St → Option Res) (R : Option Res) (q : Bool) : Prop := ∀ (e : Env) (m : Mem), e 0 = .ptr (.arg 0) g0_ 0 0 → e 1 = (.int .i64 c1) → zci (e 4) m 4 2 (zap c3) → zci (e 6) m 6 2 (zap c4) → e 35 = (.bool (q)) → m (.arg 0) = some (.rows g0_ false true 1 [zae c2]) → K .normal ⟨e, m⟩ = R
noncomputable def zh6 : Code := zbq f77 [1, 1, 0, 0]
theorem zmo {c1 : Int} {c2 : zab} {c3 : zal} {c4 : zal} {sz : Nat} (hg : zwH sz) {kk : Nat} {out : Bool} (h : zcY c1 c2 c3 c4 sz kk = some out) : ∃ N, ∀ n, N ≤ n → ∀ g0_, ∀ (e : Env) (m : Mem), e 0 = .ptr (.arg 0) g0_ 0 0 → e 1 = (.int .i64 c1) → zci (e 4) m 4 2 (zap c3) → zci (e 6) m 6 2 (zap c4) → m (.arg 0) = some (.rows g0_ false true 1 [zae c2]) → ∀ (K : Ex → St → Option Res) (R : Option Res), zfL c1 c2 c3 c4 g0_ K R out → zbH cfg (dfn cfg n) n zh6 K ⟨e, m⟩ = R := by
 unfold zcY at h
 have E := evT
 rcases zac h with ⟨h26_, h⟩ | ⟨h26_, h⟩
 have b27_ := zaq h26_
 obtain ⟨y5, h28_, h⟩ := zaa h
 rcases Bool.eq_false_or_eq_true ((decide (48 ≤ (y5.toNat : Int)))) with h29_ | h29_
 rotate_left
 rotate_left
 have b30_ := zam h26_
 rotate_left
 all_goals
  obtain rfl := Option.some.inj h
  refine E.j fun n x => ?_
  intro g0_ e m i0 i1 i2 i3 i4 K R hK
  obtain ⟨_, _, _⟩ := i2
  obtain ⟨_, _, _⟩ := i3
  (conv => lhs; arg 4; whnf)
  simp -dsimp -implicitDefEqProofs only [go_sem, *, simprocAttr]
  simp only [zfL] at hK
  refine hK _ _ ?_ ?_ ?_ ?_ ?_ ?_
  (iterate 6 (simp -dsimp -implicitDefEqProofs only [go_sem, *, simprocAttr]))
theorem zop {kk : Nat} {a : zab} {b : Int} {sz : Nat} (hg : zwH sz) {r : zal × Bool × zab} (h : zeQ kk sz a b = some r) : ∃ N, ∀ n, N ≤ n → ∀ g0_, dfn cfg n 77 [(.ptr (.arg 0) g0_ 0 0), (.int .i64 b)] [.rows g0_ false true 1 [zae a]] = some ⟨(.tup [(.agg (zap r.1)), (.bool r.2.1)]), [.rows g0_ false true 1 [zae r.2.2]], []⟩ := by
 unfold zeQ at h
 have E := evT
 obtain ⟨q6, o32_, h⟩ := zaa h
 obtain ⟨_, l31_, E⟩ := E.lj (zmo hg o32_)
 rcases zaz h with ⟨r36_, o35_, h⟩ | ⟨q13, o35_, h⟩
 obtain ⟨_, l34_, E⟩ := E.lj (zh0 hg o35_)
 rotate_left
 obtain ⟨_, l37_, E⟩ := E.lj (zh0 hg o35_)
 rcases zaz h with ⟨r40_, o39_, h⟩ | ⟨q23, o39_, h⟩
 obtain ⟨_, l38_, E⟩ := E.lp (zmn hg o39_)
 rotate_left
 cases h
 all_goals
  obtain rfl := Option.some.inj h
  refine E.s fun n x g0_ => ?_
  have j0 := zeL cfg (dfn cfg n) n zh6
  (conv at j0 => intro k s; lhs; arg 4; whnf)
  have j1 := zeL cfg (dfn cfg n) n zh5
  (conv at j1 => intro k s; lhs; arg 4; whnf)
  simp -dsimp -implicitDefEqProofs only [go_sem, ↓j0, ↓j1, func77, f77, *, simprocAttr]
  refine zgc (l31_.1 n (by omega) g0_ _ _ ?_ ?_ ?_ ?_ ?_ _ _ ?_)
  (iterate 5 (simp -dsimp -implicitDefEqProofs only [go_sem, *, simprocAttr]))
  simp only [zfL]
  intro e m i0 i1 i2 i3 i4 i5
  obtain ⟨_, _, _⟩ := i2
  obtain ⟨_, _, _⟩ := i3
  first | (have := l34_; (try simp -dsimp -implicitDefEqProofs only [go_sem, ↓j0, ↓j1, func77, f77, *, simprocAttr]); refine zgc (l34_.1 n (by omega) g0_ _ _ ?_ ?_ ?_ ?_ ?_ ?_ _ _ ?_); (iterate 6 (simp -dsimp -implicitDefEqProofs only [go_sem, *, simprocAttr])); simp only [zcK]; intro e m i0 i1 i2; obtain ⟨_, _, _, _, _, i0⟩ := i0; rcases zJK i0 with _ | ⟨lr0, _, _, _, _⟩ <;> (simp -dsimp -implicitDefEqProofs only [go_sem, ↓j0, ↓j1, func77, f77, *, simprocAttr] <;> simp -dsimp -implicitDefEqProofs only [go_sem, ↓j0, ↓j1, func77, f77, zgf, *, simprocAttr])) | (have := l37_; (try simp -dsimp -implicitDefEqProofs only [go_sem, ↓j0, ↓j1, func77, f77, *, simprocAttr]); refine zgc (l37_.1 n (by omega) g0_ _ _ ?_ ?_ ?_ ?_ ?_ ?_ _ _ ?_); (iterate 6 (simp -dsimp -implicitDefEqProofs only [go_sem, *, simprocAttr])); simp only [zcK]; intro e m i0 i1 i2 i3 i4; obtain ⟨_, _, _⟩ := i2; obtain ⟨_, _, _⟩ := i3; (try simp -dsimp -implicitDefEqProofs only [go_sem, ↓j0, ↓j1, func77, f77, *, simprocAttr]); refine zah (l38_.1 n (by omega) g0_ _ _ ?_ ?_ ?_ ?_ ?_ _ _ ?_); (iterate 5 (first | (focus (simp -dsimp -implicitDefEqProofs only [go_sem, *, simprocAttr]; done)) | (unfold zKL; simp -dsimp -implicitDefEqProofs only [go_sem, zgf, *, simprocAttr]; refine ⟨_, _, _, rfl, rfl, ?_⟩; simp -dsimp -implicitDefEqProofs only [go_sem, zgf, *, simprocAttr]))); simp only [zfK]; intro e m i0 i1 i2; obtain ⟨_, _, _, _, _, i0⟩ := i0; rcases zJK i0 with _ | ⟨lr0, _, _, _, _⟩ <;> (simp -dsimp -implicitDefEqProofs only [go_sem, ↓j0, ↓j1, func77, f77, *, simprocAttr] <;> simp -dsimp -implicitDefEqProofs only [go_sem, ↓j0, ↓j1, func77, f77, zgf, *, simprocAttr]))
def zfM (c1 : Int) (c2 : zab) (c3 : zan) (c4 : zan) (g0_ : Nat) (K : Ex → St → Option Res) (R : Option Res) (q : zab × Int) : Prop := ∀ (e : Env) (m : Mem), e 0 = .ptr (.arg 0) g0_ 0 0 → e 1 = (.int .i64 c1) → zci (e 4) m 4 10 (zbj c3) → zci (e 6) m 6 10 (zbj (c4.setKind q.2)) → m (.arg 0) = some (.rows g0_ false true 1 [zae q.1]) → K .normal ⟨e, m⟩ = R
noncomputable def zh7 : Code := zbq f121 [1, 1, 0]
theorem zmp {c1 : Int} {c2 : zab} {c3 : zan} {c4 : zan} {sz : Nat} (hg : zwH sz) {kk : Nat} {out : zab × Int} (h : zdP c1 c2 c3 c4 sz kk = some out) : ∃ N, ∀ n, N ≤ n → ∀ g0_, ∀ (e : Env) (m : Mem), e 0 = .ptr (.arg 0) g0_ 0 0 → e 1 = (.int .i64 c1) → zci (e 4) m 4 10 (zbj c3) → zci (e 6) m 6 10 (zbj c4) → m (.arg 0) = some (.rows g0_ false true 1 [zae c2]) → ∀ (K : Ex → St → Option Res) (R : Option Res), zfM c1 c2 c3 c4 g0_ K R out → zbH cfg (dfn cfg n) n zh7 K ⟨e, m⟩ = R := by
 obtain ⟨N1, t1⟩ := zay c2 zeY
 obtain ⟨N2, t2⟩ := zay c2 zeZ
 obtain ⟨N3, t3⟩ := zay c2 zcZ
 obtain ⟨N4, t4⟩ := zay c2 ziz
 unfold zdP at h
 refine ⟨N1 + N2 + N3 + N4 + 6, fun n hn g0_ e m i0 i1 i2 i3 i4 K R hK => ?_⟩
 conv => lhs; arg 4; whnf
 obtain ⟨_, f1, f2⟩ := i2
 obtain ⟨_, f3, f4⟩ := i3
 simp -dsimp -implicitDefEqProofs only [go_sem, i0, i1, f1, f2, f3, f4, i4, simprocAttr]
 refine zah (zHD c1 c2 c3 c4 n g0_ (zck (m (.loc 18 0))) (zck (m (.loc 16 0))) _ R (t1 n (by omega)) (t2 n (by omega)) (t3 n (by omega)) (t4 n (by omega)) ?_ 5 [] (by decide) (by simp) n (by omega) _ _ ?_ ?_ ?_ ?_ ?_ ?_ ?_ ?_)
 · intro x w hx e m a0 a1 a2 a3 a4
   rw [hx] at h; cases h
   exact (if_pos rfl).trans (hK e m a0 a1 a2 a3 a4)
 · simp -dsimp -implicitDefEqProofs only [go_sem, i0, i1, f1, f2, f3, f4, i4, simprocAttr]
 · simp -dsimp -implicitDefEqProofs only [go_sem, i0, i1, f1, f2, f3, f4, i4, simprocAttr]
 · simp -dsimp -implicitDefEqProofs only [zci, go_sem, i0, i1, f1, f2, f3, f4, i4, simprocAttr]; exact ⟨_, rfl, rfl⟩
 · simp -dsimp -implicitDefEqProofs only [zci, go_sem, i0, i1, f1, f2, f3, f4, i4, simprocAttr]; exact ⟨_, rfl, rfl⟩
 · simp -dsimp -implicitDefEqProofs only [go_sem, i0, i1, f1, f2, f3, f4, i4, simprocAttr]
 · simp -dsimp -implicitDefEqProofs only [go_sem, i0, i1, f1, f2, f3, f4, i4, simprocAttr]
 · simp -dsimp -implicitDefEqProofs only [go_sem, i0, i1, f1, f2, f3, f4, i4, simprocAttr]
 · simp -dsimp -implicitDefEqProofs only [go_sem, i0, i1, f1, f2, f3, f4, i4, simprocAttr]; rfl
theorem zor {kk : Nat} {a : zab} {b : Int} {sz : Nat} (hg : zwH sz) {r : zan × Bool × zab} (h : zeR kk sz a b = some r) : ∃ N, ∀ n, N ≤ n → ∀ g0_, dfn cfg n 121 [(.ptr (.arg 0) g0_ 0 0), (.int .i64 b)] [.rows g0_ false true 1 [zae a]] = some ⟨(.tup [(.agg (zbj r.1)), (.bool r.2.1)]), [.rows g0_ false true 1 [zae r.2.2]], []⟩ := by
 have ⟨hA, _, _, hE⟩ := hg
 unfold zeR at h
 have E := evT
 obtain ⟨q5, o2_, h⟩ := zaa h
 obtain ⟨_, l1_, E⟩ := E.lj (zmp hg o2_)
 rcases zac h with ⟨h4_, h⟩ | ⟨h4_, h⟩
 obtain ⟨_, h5_, h⟩ := zaa h
 have E := E.and (zhi q5.1 [116, 46, 48, 49, 50, 51, 52, 53, 54, 55, 56, 57] (zag h5_))
 obtain ⟨_, h6_, h⟩ := zaa h
 have E := E.and (zzE ((zl0 q5.1 [116, 46, 48, 49, 50, 51, 52, 53, 54, 55, 56, 57]).1) (zag h6_))
 rotate_left
 rcases zac h with ⟨h7_, h⟩ | ⟨h7_, h⟩
 obtain ⟨_, h8_, h⟩ := zaa h
 obtain ⟨_, l9_, E⟩ := E.lj (hE q5.1 (zan.zero.setKind q5.2) b (zag h8_))
 rcases zac h with ⟨h10_, h⟩ | ⟨h10_, h⟩
 have E := E.and (zay ((zdo q5.1 (zan.zero.setKind q5.2) b).2.1) [93])
 rotate_left
 rotate_left
 obtain ⟨_, h11_, h⟩ := zaa h
 have E := E.and (hA q5.1 (IntKind.wrap .i64 (b - 1)) (zag h11_))
 rcases zac h with ⟨h12_, h⟩ | ⟨h12_, h⟩
 obtain ⟨b13_, b14_⟩ := zb2 h12_
 have E := E.and (zay ((zc0 q5.1 (IntKind.wrap .i64 (b - 1))).2.2) [44, 32])
 rcases zac h with ⟨h15_, h⟩ | ⟨h15_, h⟩
 obtain ⟨_, h16_, h⟩ := zaa h
 have E := E.and (hA ((zaQ ((zc0 q5.1 (IntKind.wrap .i64 (b - 1))).2.2) [44, 32]).2) (IntKind.wrap .i64 (b - 1)) (zag h16_))
 rcases zac h with ⟨h17_, h⟩ | ⟨h17_, h⟩
 have E := E.and (zay ((zc0 ((zaQ ((zc0 q5.1 (IntKind.wrap .i64 (b - 1))).2.2) [44, 32]).2) (IntKind.wrap .i64 (b - 1))).2.2) [93])
 rotate_left
 rotate_left
 rotate_left
 rcases zbC h12_ with b18_ | ⟨b18_, b19_⟩
 rcases zac h with ⟨h20_, h⟩ | ⟨h20_, h⟩
 exact absurd (b18_.symm.trans h20_) (by decide)
 rotate_left
 rcases zac h with ⟨h21_, h⟩ | ⟨h21_, h⟩
 have E := E.and (zay ((zc0 q5.1 (IntKind.wrap .i64 (b - 1))).2.2) [93])
 rotate_left
 exact absurd (b18_.symm.trans h21_) (by decide)
 all_goals
  obtain rfl := Option.some.inj h
  refine E.s fun n x g0_ => ?_
  have j0 := zeL cfg (dfn cfg n) n zh7
  (conv at j0 => intro k s; lhs; arg 4; whnf)
  first | (have := l9_; obtain ⟨gal9_, el9_⟩ := l9_.1 n (by omega); have el9_ : ∀ g0_ g1_, dfn cfg n 148 [(.ptr (.arg 0) g0_ 0 0), (.ptr (.arg 1) g1_ 0 0), (.int .i64 b)] [.rows g0_ false true 1 [zae q5.1], .rows g1_ false true 10 [zbj (zan.zero.setKind q5.2)]] = some ⟨(.bool ((zdo q5.1 (zan.zero.setKind q5.2) b).1)), [.rows g0_ false true 1 [zae ((zdo q5.1 (zan.zero.setKind q5.2) b).2.1)], .rows g1_ false (zOv (((zdo q5.1 (zan.zero.setKind q5.2) b).2.2).items.l)) 10 [[(.int .i64 (((zdo q5.1 (zan.zero.setKind q5.2) b).2.2).kind)), (.int .i64 ((((zdo q5.1 (zan.zero.setKind q5.2) b).2.2).row).table)), (.int .i64 ((((zdo q5.1 (zan.zero.setKind q5.2) b).2.2).row).seq)), (dSl (cSl zap) (((zdo q5.1 (zan.zero.setKind q5.2) b).2.2).args)), (.int .i64 (((zdo q5.1 (zan.zero.setKind q5.2) b).2.2).func)), (zL6 (((zdo q5.1 (zan.zero.setKind q5.2) b).2.2).items.l) (gal9_ g0_ g1_)), (.int .i64 (((zdo q5.1 (zan.zero.setKind q5.2) b).2.2).op)), (.int .i64 ((((zdo q5.1 (zan.zero.setKind q5.2) b).2.2).bound).kind)), (.int .i64 ((((zdo q5.1 (zan.zero.setKind q5.2) b).2.2).bound).int)), (.str ((((zdo q5.1 (zan.zero.setKind q5.2) b).2.2).bound).text))]]], zL7 (gal9_ g0_ g1_) 4 zao (((zdo q5.1 (zan.zero.setKind q5.2) b).2.2).items.l)⟩ := el9_; rcases em2 (((zdo q5.1 (zan.zero.setKind q5.2) b).2.2).items.l = []) with hl9_ | hl9_ <;> (simp only [zL6, zL7, zOv, hl9_, if_true, if_false, List.map_nil, List.length_nil] at el9_; simp -dsimp -implicitDefEqProofs only [go_sem, ↓j0, func121, f121, *, simprocAttr]; refine zgc (l1_.1 n (by omega) g0_ _ _ ?_ ?_ ?_ ?_ ?_ _ _ ?_); (iterate 5 (simp -dsimp -implicitDefEqProofs only [go_sem, *, simprocAttr])); simp only [zfM]; intro e m i0 i1 i2 i3 i4; obtain ⟨_, _, _⟩ := i2; obtain ⟨_, _, _⟩ := i3; simp -dsimp -implicitDefEqProofs only [go_sem, ↓j0, func121, f121, *, simprocAttr] <;> simp -dsimp -implicitDefEqProofs only [go_sem, ↓j0, func121, f121, zgf, *, simprocAttr])) | (have := l1_; simp -dsimp -implicitDefEqProofs only [go_sem, ↓j0, func121, f121, *, simprocAttr]; refine zgc (l1_.1 n (by omega) g0_ _ _ ?_ ?_ ?_ ?_ ?_ _ _ ?_); (iterate 5 (simp -dsimp -implicitDefEqProofs only [go_sem, *, simprocAttr])); simp only [zfM]; intro e m i0 i1 i2 i3 i4; obtain ⟨_, _, _⟩ := i2; obtain ⟨_, _, _⟩ := i3; simp -dsimp -implicitDefEqProofs only [go_sem, ↓j0, func121, f121, *, simprocAttr] <;> simp -dsimp -implicitDefEqProofs only [go_sem, ↓j0, func121, f121, zgf, *, simprocAttr])
def zcJ (c2 : Int) (g0_ : Nat) (g1_ : Nat) (K : Ex → St → Option Res) (R : Option Res → Prop) : Out (Bool × zab × zan) (zab × zan × List zad) → Prop
 | .ret r => ∀ (e : Env) (m : Mem), e 6 = (.bool r.1) → m (.arg 0) = some (.rows g0_ false true 1 [zae r.2.1]) → zwr m 1 g1_ 10 (fun d => [(.int .i64 r.2.2.kind), (.int .i64 r.2.2.row.table), (.int .i64 r.2.2.row.seq), (dSl (cSl zap) r.2.2.args), (.int .i64 r.2.2.func), d, (.int .i64 r.2.2.op), (.int .i64 r.2.2.bound.kind), (.int .i64 r.2.2.bound.int), (.str r.2.2.bound.text)]) [55] 4 zao r.2.2.items.l → R (K .ret ⟨e, m⟩)
 | .done q => ∀ (e : Env) (m : Mem), e 1 = .ptr (.arg 1) g1_ 0 0 → zD2 (e 3) m 3 1 [(.ptr (.arg 0) g0_ 0 0)] → m (.arg 0) = some (.rows g0_ false true 1 [zae q.1]) → zwr m 1 g1_ 10 (fun d => [(.int .i64 q.2.1.kind), (.int .i64 q.2.1.row.table), (.int .i64 q.2.1.row.seq), (dSl (cSl zap) q.2.1.args), (.int .i64 q.2.1.func), d, (.int .i64 q.2.1.op), (.int .i64 q.2.1.bound.kind), (.int .i64 q.2.1.bound.int), (.str q.2.1.bound.text)]) [55] 4 zao q.2.2 → R (K (.exit 0) ⟨e, m⟩)
noncomputable def zmB : Code := zbq f148 [1, 1, 0, 0, 0]
theorem zhZ {c2 : Int} {sz : Nat} (hg : zwH sz) {kk : Nat} : ∀ {k : Nat} {s3 : zab} {s4 : zan} {s5 : List zad} {out : Out (Bool × zab × zan) (zab × zan × List zad)}, zbX c2 sz kk k s3 s4 s5 = some out → ∃ N, ∀ n, N ≤ n → ∀ k, N ≤ k → ∀ g0_ g1_, ∀ (e : Env) (m : Mem), e 1 = .ptr (.arg 1) g1_ 0 0 → e 2 = (.int .i64 c2) → zD2 (e 3) m 3 1 [(.ptr (.arg 0) g0_ 0 0)] → m (.arg 0) = some (.rows g0_ false true 1 [zae s3]) → zwr m 1 g1_ 10 (fun d => [(.int .i64 s4.kind), (.int .i64 s4.row.table), (.int .i64 s4.row.seq), (dSl (cSl zap) s4.args), (.int .i64 s4.func), d, (.int .i64 s4.op), (.int .i64 s4.bound.kind), (.int .i64 s4.bound.int), (.str s4.bound.text)]) [55] 4 zao s5 → ∀ (K : Ex → St → Option Res) (R : Option Res → Prop), zcJ c2 g0_ g1_ K R out → R (zcj (zbH cfg (dfn cfg n) n zmB) K k ⟨e, m⟩) := by
 have ⟨hA, _, _, _⟩ := hg
 intro k
 induction k with
 | zero => intro s3 s4 s5 out h; cases h
 | succ k ih => ?_
 intro s3 s4 s5 out h
 have ih := fun x0 x1 x2 {out} => @ih x0 x1 x2 out
 unfold zbX at h
 have E := evT
 rcases zac h with ⟨h1_, h⟩ | ⟨h1_, h⟩
 obtain ⟨_, h2_, h⟩ := zaa h
 have E := E.and (zh4 s3 (zag h2_))
 rcases zac h with ⟨h3_, h⟩ | ⟨h3_, h⟩
 have b4_ := zaq h3_
 have b5_ := zam b4_
 have E := E.and (zay ((zkF s3).2.2) [58, 32])
 rcases zac h with ⟨h6_, h⟩ | ⟨h6_, h⟩
 have b7_ := zaq h6_
 rotate_left
 have b8_ := zam h6_
 obtain ⟨_, h9_, h⟩ := zaa h
 have E := E.and (hA ((zaQ ((zkF s3).2.2) [58, 32]).2) (IntKind.wrap .i64 (c2 - 1)) (zag h9_))
 rcases zac h with ⟨h10_, h⟩ | ⟨h10_, h⟩
 have b11_ := zaq h10_
 rotate_left
 have b12_ := zam h10_
 obtain ⟨_, h13_, h⟩ := zaa h
 have h13_ := zag h13_
 try simp -dsimp -implicitDefEqProofs only [go_sem, simprocAttr] at h13_
 have E := E.and (zay ((zc0 ((zaQ ((zkF s3).2.2) [58, 32]).2) (IntKind.wrap .i64 (c2 - 1))).2.2) [59, 32])
 rcases zac h with ⟨h14_, h⟩ | ⟨h14_, h⟩
 have b15_ := zaq h14_
 rotate_left
 have b16_ := zam h14_
 rotate_left
 have b17_ := zam h3_
 have b18_ := zaq b17_
 rotate_left
 rotate_left
 all_goals
  first | (obtain rfl := Option.some.inj h; refine E.l fun n k x => ?_) | refine E.c (ih _ _ _ h) fun n k x I => ?_
  intro g0_ g1_ e m i0 i1 i2 i3 i4 K R hK
  obtain ⟨_, _, _⟩ := i2
  obtain ⟨_, _, i4⟩ := i4
  rcases zt2 i4 with ⟨_, _⟩ | ⟨_, _, _, _⟩ <;> (rw [zau]; (conv => arg 1; arg 4; whnf); (first | (simp -dsimp -implicitDefEqProofs only [go_sem, *, simprocAttr]; simp only [zcJ] at hK; refine hK _ _ ?_ ?_ ?_; (iterate 3 (first | (focus (simp -dsimp -implicitDefEqProofs only [go_sem, *, simprocAttr]; done)) | (unfold zwr; simp -dsimp -implicitDefEqProofs only [go_sem, zgf, *, simprocAttr]; refine ⟨_, rfl, ?_⟩; simp -dsimp -implicitDefEqProofs only [go_sem, zgf, *, simprocAttr])))) | (simp -dsimp -implicitDefEqProofs only [go_sem, *, simprocAttr]; simp only [zcJ] at hK; refine hK _ _ ?_ ?_ ?_ ?_; (iterate 4 (first | (focus (simp -dsimp -implicitDefEqProofs only [go_sem, *, simprocAttr]; done)) | (unfold zwr; simp -dsimp -implicitDefEqProofs only [go_sem, zgf, *, simprocAttr]; refine ⟨_, rfl, ?_⟩; simp -dsimp -implicitDefEqProofs only [go_sem, zgf, *, simprocAttr])))) | (simp -dsimp -implicitDefEqProofs only [go_sem, *, simprocAttr]; refine zvp (I.1 g0_ g1_ _ _ ?_ ?_ ?_ ?_ ?_ _ _ hK); (iterate 5 (first | (focus (simp -dsimp -implicitDefEqProofs only [go_sem, *, simprocAttr]; done)) | (unfold zwr; simp -dsimp -implicitDefEqProofs only [go_sem, zgf, *, simprocAttr]; refine ⟨_, rfl, ?_⟩; simp -dsimp -implicitDefEqProofs only [go_sem, zgf, *, simprocAttr]))))))
def zmO (r : Bool × zab × zan) (g0_ g1_ : Nat) (X : Option Res) : Prop := ∃ γ_, X = some ⟨(.bool r.1), [.rows g0_ false true 1 [zae r.2.1], .rows g1_ false (zOv (r.2.2.items.l)) 10 [[(.int .i64 r.2.2.kind), (.int .i64 r.2.2.row.table), (.int .i64 r.2.2.row.seq), (dSl (cSl zap) r.2.2.args), (.int .i64 r.2.2.func), (zL6 (r.2.2.items.l) γ_), (.int .i64 r.2.2.op), (.int .i64 r.2.2.bound.kind), (.int .i64 r.2.2.bound.int), (.str r.2.2.bound.text)]]], zL7 γ_ 4 zao (r.2.2.items.l)⟩
theorem znI {kk : Nat} {a : zab} {b : zan} {c : Int} {sz : Nat} (hg : zwH sz) {r : Bool × zab × zan} (h : zdt kk sz a b c = some r) : ∃ N, ∀ n, N ≤ n → ∀ g0_ g1_, zmO r g0_ g1_ (dfn cfg n 148 [(.ptr (.arg 0) g0_ 0 0), (.ptr (.arg 1) g1_ 0 0), (.int .i64 c)] [.rows g0_ false true 1 [zae a], .rows g1_ false true 10 [zbj (b.setItems Sl.nil)]]) := by
 unfold zdt at h
 have E := evT
 have E := E.and (zj9 )
 obtain ⟨_, h19_, h⟩ := zaa h
 have E := E.and (zfp (zkw) a (zag h19_))
 rcases zaz h with ⟨r22_, o21_, h⟩ | ⟨q9, o21_, h⟩
 obtain ⟨_, l20_, E⟩ := E.lp (zhZ hg o21_)
 rotate_left
 obtain ⟨_, l23_, E⟩ := E.lp (zhZ hg o21_)
 rcases zac h with ⟨h24_, h⟩ | ⟨h24_, h⟩
 have b25_ := zaq h24_
 have E := E.and (zay q9.1 [125, 32])
 rcases zac h with ⟨h26_, h⟩ | ⟨h26_, h⟩
 have b27_ := zaq h26_
 rotate_left
 have b28_ := zam h26_
 have E := E.and (zj8 )
 obtain ⟨_, h29_, h⟩ := zaa h
 have E := E.and (zfo (zgC) ((zaQ q9.1 [125, 32]).2) (zag h29_))
 obtain ⟨_, h30_, h⟩ := zaa h
 have E := E.and (zh4 ((zvi (zgC) ((zaQ q9.1 [125, 32]).2)).2) (zag h30_))
 rcases Bool.eq_false_or_eq_true ((decide (0 ≤ ((zvi (zgC) ((zaQ q9.1 [125, 32]).2)).1)))) with h31_ | h31_
 rotate_left
 rotate_left
 have b32_ := zam h24_
 rotate_left
 all_goals
  obtain rfl := Option.some.inj h
  refine E.s fun n x g0_ g1_ => ?_
  first | (have := l20_; simp -dsimp -implicitDefEqProofs only [go_sem, func148, f148, *, simprocAttr]; refine zvp (l20_.1 n (by omega) g0_ g1_ _ _ ?_ ?_ ?_ ?_ ?_ _ _ ?_); (iterate 5 (first | (focus (simp -dsimp -implicitDefEqProofs only [go_sem, *, simprocAttr]; done)) | (unfold zwr; simp -dsimp -implicitDefEqProofs only [go_sem, zgf, *, simprocAttr]; refine ⟨_, rfl, ?_⟩; simp -dsimp -implicitDefEqProofs only [go_sem, zgf, *, simprocAttr]))); simp only [zcJ]; intro e m i0 i1 i2; obtain ⟨_, _, i2⟩ := i2; rcases zt2 i2 with ⟨_, _⟩ | ⟨_, _, _, _⟩ <;> (simp -dsimp -implicitDefEqProofs only [go_sem, func148, f148, *, simprocAttr]; (first | (refine ⟨0, ?_⟩; (try conv => lhs; simp -dsimp -implicitDefEqProofs only [go_sem, func148, f148, zgf, *, simprocAttr]); (conv => rhs; simp -dsimp -implicitDefEqProofs only [go_sem, func148, f148, zgf, zL6, zL7, *, simprocAttr]); (try rfl); done) | (apply Exists.intro; (try conv => lhs; simp -dsimp -implicitDefEqProofs only [go_sem, func148, f148, zgf, *, simprocAttr]); (conv => rhs; simp -dsimp -implicitDefEqProofs only [go_sem, func148, f148, zgf, zL6, zL7, *, simprocAttr]); (try rfl); done)))) | (have := l23_; simp -dsimp -implicitDefEqProofs only [go_sem, func148, f148, *, simprocAttr]; refine zvp (l23_.1 n (by omega) g0_ g1_ _ _ ?_ ?_ ?_ ?_ ?_ _ _ ?_); (iterate 5 (first | (focus (simp -dsimp -implicitDefEqProofs only [go_sem, *, simprocAttr]; done)) | (unfold zwr; simp -dsimp -implicitDefEqProofs only [go_sem, zgf, *, simprocAttr]; refine ⟨_, rfl, ?_⟩; simp -dsimp -implicitDefEqProofs only [go_sem, zgf, *, simprocAttr]))); simp only [zcJ]; intro e m i0 i1 i2 i3; obtain ⟨_, _, _⟩ := i1; obtain ⟨_, _, i3⟩ := i3; rcases zt2 i3 with ⟨_, _⟩ | ⟨_, _, _, _⟩ <;> (simp -dsimp -implicitDefEqProofs only [go_sem, func148, f148, *, simprocAttr]; (first | (refine ⟨0, ?_⟩; (try conv => lhs; simp -dsimp -implicitDefEqProofs only [go_sem, func148, f148, zgf, *, simprocAttr]); (conv => rhs; simp -dsimp -implicitDefEqProofs only [go_sem, func148, f148, zgf, zL6, zL7, *, simprocAttr]); (try rfl); done) | (apply Exists.intro; (try conv => lhs; simp -dsimp -implicitDefEqProofs only [go_sem, func148, f148, zgf, *, simprocAttr]); (conv => rhs; simp -dsimp -implicitDefEqProofs only [go_sem, func148, f148, zgf, zL6, zL7, *, simprocAttr]); (try rfl); done))))
theorem zoo {kk : Nat} {a : zab} {b : zan} {c : Int} {sz : Nat} (hg : zwH sz) {r : Bool × zab × zan} (h : zdt kk sz a b c = some r) : ∃ N, ∀ n, N ≤ n → ∃ γ_ : Nat → Nat → Nat, ∀ g0_ g1_,  dfn cfg n 148 [(.ptr (.arg 0) g0_ 0 0), (.ptr (.arg 1) g1_ 0 0), (.int .i64 c)] [.rows g0_ false true 1 [zae a], .rows g1_ false true 10 [zbj (b.setItems Sl.nil)]] = some ⟨(.bool r.1), [.rows g0_ false true 1 [zae r.2.1], .rows g1_ false (zOv (r.2.2.items.l)) 10 [[(.int .i64 r.2.2.kind), (.int .i64 r.2.2.row.table), (.int .i64 r.2.2.row.seq), (dSl (cSl zap) r.2.2.args), (.int .i64 r.2.2.func), (zL6 (r.2.2.items.l) (γ_ g0_ g1_)), (.int .i64 r.2.2.op), (.int .i64 r.2.2.bound.kind), (.int .i64 r.2.2.bound.int), (.str r.2.2.bound.text)]]], zL7 (γ_ g0_ g1_) 4 zao (r.2.2.items.l)⟩ := by
 obtain ⟨N, hN⟩ := znI hg h
 exact ⟨N, fun n hn => ⟨fun g0_ g1_ => (hN n hn g0_ g1_).choose, fun g0_ g1_ => (hN n hn g0_ g1_).choose_spec⟩⟩
theorem zHc : ∀ s : Nat, s < big → zwH s := by
 intro s
 induction s with
 | zero => intro _; exact ⟨fun _ _ h => absurd h (by omega), fun _ _ h => absurd h (by omega), fun _ _ h => absurd h (by omega), fun _ _ _ h => absurd h (by omega)⟩
 | succ s ih =>
   intro hb
   have hg := ih (by omega)
   exact ⟨
    fun a b h => zkL (sz := s) hg (zj0 (kk := big) (sz := s) h),
    fun a b h => zop (sz := s) hg (zmt (kk := big) (sz := s) h),
    fun a b h => zor (sz := s) hg (zmv (kk := big) (sz := s) h),
    fun a b c h => zoo (sz := s) hg (zms (kk := big) (sz := s) h)⟩
theorem zkV (a : zab) (b : Int) (h : (a.rest.length < lim ∧ -1 ≤ b ∧ b ≤ 8 ∧ 4 * (b + 1).toNat + 3 < big - 1)) : ∃ N, ∀ n, N ≤ n → ∀ g0_, dfn cfg n 27 [(.ptr (.arg 0) g0_ 0 0), (.int .i64 b)] [.rows g0_ false true 1 [zae a]] = some ⟨(.tup [(dSl zap ((zc0 a b).1)), (.bool ((zc0 a b).2.1))]), [.rows g0_ false true 1 [zae ((zc0 a b).2.2)]], []⟩ := (zHc (big - 1) (by unfold big; omega)).1 a b h
end Go.Proofs.Tryz
set_option maxRecDepth 100000
set_option maxHeartbeats 4000000
set_option linter.unusedSimpArgs false
set_option linter.unusedVariables false
namespace Go.Proofs.Tryz
open Go.Ev
theorem zuq {kk : Nat} {a : Str} {r : (Sl zal) × Int} (h : zhD kk a = some r) : Ev cfg 9 [(.str a)] (.tup [(dSl zap r.1), (.int .i64 r.2)]) := by
 unfold zhD at h
 have E := evT
 obtain ⟨_, h1_, h⟩ := zaa h
 have E := E.and (zkV (zab.zero.setRest a) 8 (zag h1_))
 rcases zac h with ⟨h2_, h⟩ | ⟨h2_, h⟩
 have b3_ := zaq h2_
 obtain ⟨b4_, b5_⟩ := zaM b3_
 have b6_ := zam b4_
 have b7_ := zam b5_
 obtain ⟨_, h8_, h⟩ := zaa h
 have E := E.and (zhF ((zc0 (zab.zero.setRest a) 8).1) (zag h8_))
 rcases zac h with ⟨h9_, h⟩ | ⟨h9_, h⟩
 have b10_ := zaq h9_
 have b11_ := zam b10_
 obtain ⟨_, h12_, h⟩ := zaa h
 have E := E.and (zoy ((zc0 (zab.zero.setRest a) 8).1) (zag h12_))
 rcases zac h with ⟨h13_, h⟩ | ⟨h13_, h⟩
 have b14_ := zaq h13_
 rotate_left
 have b15_ := zam h13_
 rotate_left
 have b16_ := zam h9_
 have b17_ := zaq b16_
 rotate_left
 have b18_ := zam h2_
 rcases zbW b18_ with b19_ | ⟨b19_, b20_⟩
 have b21_ := zaq b19_
 rotate_left
 have b22_ := zam b19_
 have b23_ := zaq b20_
 rotate_left
 all_goals
  obtain rfl := Option.some.inj h
  refine E.s fun n x => ?_
  (try simp only [zbP, go_sem] at x)
  simp -dsimp -implicitDefEqProofs only [go_sem, func9, f9, zbP, *, simprocAttr]
theorem zno (a : Str) (h : 5 * a.length < lim) : Ev cfg 9 [(.str a)] (.tup [(dSl zap ((zcu a).1)), (.int .i64 ((zcu a).2))]) := zuq (zrz (kk := big) a h)
theorem ztd {kk : Nat} {a : (Sl zal)} {r : Str} (h : zhh kk a = some r) : Ev cfg 6 [(dSl zap a)] (.str r) := by
 unfold zhh at h
 have E := evT
 obtain ⟨_, h1_, h⟩ := zaa h
 have E := E.and (zhF a (zag h1_))
 rcases zac h with ⟨h2_, h⟩ | ⟨h2_, h⟩
 have b3_ := zaq h2_
 rotate_left
 have b4_ := zam h2_
 obtain ⟨_, h5_, h⟩ := zaa h
 have E := E.and (zoy a (zag h5_))
 rotate_left
 all_goals
  obtain rfl := Option.some.inj h
  refine E.s fun n x => ?_
  simp -dsimp -implicitDefEqProofs only [go_sem, func6, f6, *, simprocAttr]
theorem zmA (a : (Sl zal)) (h : zbv a.l ∧ 20 * zak a.l + 1 < lim) : Ev cfg 6 [(dSl zap a)] (.str (zl8 a)) := ztd (zqy 0 a h)
theorem zDX {kk : Nat} {a : (Sl zal)} {r : Str} (h : znk kk a = some r) : Ev cfg 7 [(dSl zap a)] (.str r) := by
 unfold znk at h
 have E := evT
 obtain ⟨_, h1_, h⟩ := zaa h
 have E := E.and (zFH a (zag h1_))
 rcases zac h with ⟨h2_, h⟩ | ⟨h2_, h⟩
 have b3_ := zaq h2_
 rotate_left
 have b4_ := zam h2_
 obtain ⟨_, h5_, h⟩ := zaa h
 have E := E.and (zIl a (zag h5_))
 rotate_left
 all_goals
  obtain rfl := Option.some.inj h
  refine E.s fun n x => ?_
  simp -dsimp -implicitDefEqProofs only [go_sem, func7, f7, *, simprocAttr]
theorem zD6 (a : (Sl zal)) (h : zbv a.l ∧ 20 * zak a.l + 1 < lim) : Ev cfg 7 [(dSl zap a)] (.str (zl8 a)) := zDX (zyH 0 a h)
def zdb (c5 : Sl zal) (c6 : Str) (c7 : Str) (c8 : Bool) (K : Ex → St → Option Res) (R : Option Res) : Out (Bool) (Unit) → Prop
 | .ret r => ∀ (e : Env) (m : Mem), e 4 = (.bool r) → K .ret ⟨e, m⟩ = R
 | .done q => ∀ (e : Env) (m : Mem), e 1 = (.str c6) → K .normal ⟨e, m⟩ = R
noncomputable def ziR : Code := zbq f3 [1, 1, 1, 1, 1, 0, 1]
theorem ziO {c5 : Sl zal} {c6 : Str} {c7 : Str} {c8 : Bool} {kk : Nat} {out : Out (Bool) (Unit)} (h : zds c5 c6 c7 c8 kk = some out) : ∃ N, ∀ n, N ≤ n → ∀ (e : Env) (m : Mem), e 0 = (dSl zap c5) → e 1 = (.str c6) → e 5 = (.str c7) → e 28 = (.bool (c8)) → ∀ (K : Ex → St → Option Res) (R : Option Res), zdb c5 c6 c7 c8 K R out → zbH cfg (dfn cfg n) n ziR K ⟨e, m⟩ = R := by
 unfold zds at h
 have E := evT
 rcases zac h with ⟨h1_, h⟩ | ⟨h1_, h⟩
 obtain ⟨_, h2_, h⟩ := zaa h
 have E := E.and (zno c7 (zag h2_))
 rcases zac h with ⟨h3_, h⟩ | ⟨h3_, h⟩
 have b4_ := zaq h3_
 obtain ⟨_, h5_, h⟩ := zaa h
 have E := E.and (znp c5 ((zcu c7).1) (zag h5_))
 rcases zac h with ⟨h6_, h⟩ | ⟨h6_, h⟩
 have b7_ := zaq h6_
 rotate_left
 have b8_ := zam h6_
 rotate_left
 have b9_ := zam h3_
 rotate_left
 rotate_left
 all_goals
  obtain rfl := Option.some.inj h
  refine E.j fun n x => ?_
  intro e m i0 i1 i2 i3 K R hK
  (conv => lhs; arg 4; whnf)
  first | (simp -dsimp -implicitDefEqProofs only [go_sem, *, simprocAttr]; simp only [zdb] at hK; refine hK _ _ ?_; simp -dsimp -implicitDefEqProofs only [go_sem, *, simprocAttr]) | (simp -dsimp -implicitDefEqProofs only [go_sem, *, simprocAttr]; simp only [zdb] at hK; refine hK _ _ ?_; simp -dsimp -implicitDefEqProofs only [go_sem, *, simprocAttr])
theorem zqi {kk : Nat} {a : (Sl zal)} {b : Str} {r : Bool} (h : zfR kk a b = some r) : Ev cfg 3 [(dSl zap a), (.str b)] (.bool r) := by
 unfold zfR at h
 have E := evT
 have e10_ : zxH [] = some (.bool ((zKB))) := zHl
 rcases zac h with ⟨h11_, h⟩ | ⟨h11_, h⟩
 have b12_ := zaq h11_
 rotate_left
 have b13_ := zam h11_
 obtain ⟨_, h14_, h⟩ := zaa h
 have E := E.and (zKN 100 (Sl.of [a]) (zag h14_))
 rcases zac h with ⟨h15_, h⟩ | ⟨h15_, h⟩
 rcases zbW h15_ with b16_ | ⟨b16_, b17_⟩
 have b18_ := zaq b16_
 try simp only [Sl.of] at b18_
 rotate_left
 have b19_ := zam b16_
 try simp only [Sl.of] at b19_
 rotate_left
 obtain ⟨b20_, b21_⟩ := zaM h15_
 have b22_ := zam b20_
 try simp only [Sl.of] at b22_
 obtain ⟨_, h23_, h⟩ := zaa h
 have E := E.and (zmA a (zag h23_))
 obtain ⟨_, h24_, h⟩ := zaa h
 have E := E.and (zD6 a (zag h24_))
 rcases zac h with ⟨h25_, h⟩ | ⟨h25_, h⟩
 have b26_ := zaq h25_
 rotate_left
 have b27_ := zam h25_
 obtain ⟨_, h28_, h⟩ := zaa h
 have E := E.and (zhF a (zag h28_))
 rcases zaz h with ⟨r31_, o30_, h⟩ | ⟨q11, o30_, h⟩
 obtain ⟨_, l29_, E⟩ := E.lj (ziO o30_)
 rotate_left
 obtain ⟨_, l32_, E⟩ := E.lj (ziO o30_)
 obtain ⟨_, h33_, h⟩ := zaa h
 have E := E.and (zno b (zag h33_))
 rcases zac h with ⟨h34_, h⟩ | ⟨h34_, h⟩
 rcases Bool.eq_false_or_eq_true ((((zcu b).2) == 3)) with h35_ | h35_
 rotate_left
 rotate_left
 obtain ⟨_, h36_, h⟩ := zaa h
 have E := E.and (zhF ((zcu b).1) (zag h36_))
 rcases zac h with ⟨h37_, h⟩ | ⟨h37_, h⟩
 obtain ⟨_, h38_, h⟩ := zaa h
 have E := E.and (zmA ((zcu b).1) (zag h38_))
 rotate_left
 rotate_left
 all_goals
  obtain rfl := Option.some.inj h
  refine E.s fun n x => ?_
  (try simp -dsimp -implicitDefEqProofs only [go_sem, simprocAttr] at x)
  have j0 := zeL cfg (dfn cfg n) n ziR
  (conv at j0 => intro k s; lhs; arg 4; whnf)
  first | (have := l29_; simp -dsimp -implicitDefEqProofs only [go_sem, ↓j0, func3, f3, *, simprocAttr]; refine zgc (l29_.1 n (by omega) _ _ ?_ ?_ ?_ ?_ _ _ ?_); (iterate 4 (simp -dsimp -implicitDefEqProofs only [go_sem, *, simprocAttr])); simp only [zdb]; intro e m i0; simp -dsimp -implicitDefEqProofs only [go_sem, ↓j0, func3, f3, *, simprocAttr]) | (have := l32_; simp -dsimp -implicitDefEqProofs only [go_sem, ↓j0, func3, f3, *, simprocAttr]; refine zgc (l32_.1 n (by omega) _ _ ?_ ?_ ?_ ?_ _ _ ?_); (iterate 4 (simp -dsimp -implicitDefEqProofs only [go_sem, *, simprocAttr])); simp only [zdb]; intro e m i0; simp -dsimp -implicitDefEqProofs only [go_sem, ↓j0, func3, f3, *, simprocAttr]) | (simp -dsimp -implicitDefEqProofs only [go_sem, ↓j0, func3, f3, *, simprocAttr])
theorem zqz (a : (Sl zal)) (b : Str) (h : zbv a.l ∧ zIR a ≤ 4194304) : Ev cfg 3 [(dSl zap a), (.str b)] (.bool (zIM a b)) := zqi (znP (kk := big) a b h)
end Go.Proofs.Tryz
