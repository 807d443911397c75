/- Part of a proof. -/
import Derived.Test.YtaadpbhondmahaaGreatDoorT9
import Derived.Test.YtaadpbhondmahaaGreatDoorT10
set_option linter.all false
set_option maxRecDepth 100000
set_option maxHeartbeats 4000000
set_option linter.unusedSimpArgs false
set_option linter.unusedVariables false
namespace Go.Proofs.Tryz
open Go.Ev
theorem zlu {kk : Nat} {a : Str} {b : Str} {r : Bool} (h : zdx kk a b = some r) : Ev cfg 189 [(.str a), (.str b)] (.bool r) := by
 unfold zdx at h
 have E := evT
 rcases zae h with ⟨h1_, h⟩ | ⟨h1_, h⟩
 obtain ⟨y1, h2_, h⟩ := zaa h
 have h2_ : zeC prog none (some (.int .i64 (b.length : Int))) none (.str a) .str = pure (.str y1) := zjN h2_ prog
 rotate_left
 rotate_left
 all_goals
  obtain rfl := Option.some.inj h
  refine E.s fun n x => ?_
  simp -dsimp -implicitDefEqProofs only [go_sem, func189, f189, *, simprocAttr]
theorem zfi (a : Str) (b : Str) : Ev cfg 189 [(.str a), (.str b)] (.bool (ziv a b)) := zlu (zj5 0 a b)
theorem zpI {kk : Nat} {a : Str} {b : Str} {r : Bool} (h : zhN kk a b = some r) : Ev cfg 213 [(.str a), (.str b)] (.bool r) := by
 unfold zhN at h
 have E := evT
 have E := E.and (zfi a b)
 obtain rfl := Option.some.inj h
 refine E.s fun n x => ?_
 simp -dsimp -implicitDefEqProofs only [go_sem, func213, f213, *, simprocAttr]
theorem zkJ (a : Str) (b : Str) : Ev cfg 213 [(.str a), (.str b)] (.bool (ziv a b)) := zpI (znA 0 a b)
theorem zlv {kk : Nat} {a : Str} {b : Str} {r : Str × Bool} (h : zdy kk a b = some r) : Ev cfg 171 [(.str a), (.str b)] (.tup [(.str r.1), (.bool r.2)]) := by
 unfold zdy at h
 have E := evT
 have E := E.and (zfi a b)
 rcases zae h with ⟨h1_, h⟩ | ⟨h1_, h⟩
 have b2_ := zar h1_
 rotate_left
 have b3_ := zan h1_
 obtain ⟨y1, h4_, h⟩ := zaa h
 have h4_ : zeC prog (some (.int .i64 (b.length : Int))) none none (.str a) .str = pure (.str y1) := zjN h4_ prog
 rotate_left
 all_goals
  obtain rfl := Option.some.inj h
  refine E.s fun n x => ?_
  simp -dsimp -implicitDefEqProofs only [go_sem, func171, f171, *, simprocAttr]
theorem zlN (a : Str) (b : Str) : Ev cfg 171 [(.str a), (.str b)] (.tup [(.str ((zfQ a b).1)), (.bool ((zfQ a b).2))]) := zlv (zj6 0 a b)
theorem zpJ {kk : Nat} {a : Str} {b : Str} {r : Str × Bool} (h : zhO kk a b = some r) : Ev cfg 145 [(.str a), (.str b)] (.tup [(.str r.1), (.bool r.2)]) := by
 unfold zhO at h
 have E := evT
 have E := E.and (zlN a b)
 obtain rfl := Option.some.inj h
 refine E.s fun n x => ?_
 simp -dsimp -implicitDefEqProofs only [go_sem, func145, f145, *, simprocAttr]
theorem zkK (a : Str) (b : Str) : Ev cfg 145 [(.str a), (.str b)] (.tup [(.str ((zfQ a b).1)), (.bool ((zfQ a b).2))]) := zpJ (znB 0 a b)
theorem zkP {kk : Nat} {a : Str} {b : Str} {r : Str} (h : zc5 kk a b = some r) : Ev cfg 240 [(.str a), (.str b)] (.str r) := by
 unfold zc5 at h
 have E := evT
 have E := E.and (zfi a b)
 rcases zae h with ⟨h1_, h⟩ | ⟨h1_, h⟩
 obtain ⟨y1, h2_, h⟩ := zaa h
 have h2_ : zeC prog (some (.int .i64 (b.length : Int))) none none (.str a) .str = pure (.str y1) := zjN h2_ prog
 rotate_left
 rotate_left
 all_goals
  obtain rfl := Option.some.inj h
  refine E.s fun n x => ?_
  simp -dsimp -implicitDefEqProofs only [go_sem, func240, f240, *, simprocAttr]
theorem zk1 (a : Str) (b : Str) : Ev cfg 240 [(.str a), (.str b)] (.str (ziC a b)) := zkP (zjv 0 a b)
theorem zoP {kk : Nat} {a : Str} {b : Str} {r : Str} (h : zhq kk a b = some r) : Ev cfg 236 [(.str a), (.str b)] (.str r) := by
 unfold zhq at h
 have E := evT
 have E := E.and (zk1 a b)
 obtain rfl := Option.some.inj h
 refine E.s fun n x => ?_
 simp -dsimp -implicitDefEqProofs only [go_sem, func236, f236, *, simprocAttr]
theorem zo2 (a : Str) (b : Str) : Ev cfg 236 [(.str a), (.str b)] (.str (ziC a b)) := zoP (zm2 0 a b)
def zep (c5 : Str) (c6 : Str) (c7 : Int) (c8 : Int) (c10 : Str) (c12 : Str) (K : Ex → St → Option Res) (R : Option Res) : Out (Str) (Bool × Nat × Nat) → Prop
 | .ret r => ∀ (e : Env) (m : Mem), e 4 = (.str r) → K .ret ⟨e, m⟩ = R
 | .done q => ∀ (e : Env) (m : Mem), e 0 = (.str c5) → e 1 = (.str c6) → e 5 = (.int .i64 c7) → e 7 = (.bool (q.1)) → ztS (e 11) m 11 c10 q.2.1 → K (.exit 2) ⟨e, m⟩ = R
noncomputable def znd : Code := zb4 f192 [1, 0, 1, 0, 0, 1, 1, 0, 1, 1, 0, 1, 0, 0]
theorem zih {c5 : Str} {c6 : Str} {c7 : Int} {c8 : Int} {c10 : Str} {c12 : Str} {kk : Nat} : ∀ {k : Nat} {s9 : Bool} {s11 : Nat} {s13 : Nat} {out : Out (Str) (Bool × Nat × Nat)}, zcy c5 c6 c7 c8 c10 c12 kk k s9 s11 s13 = some out → ∃ N, ∀ n, N ≤ n → ∀ k, N ≤ k → ∀ (e : Env) (m : Mem), e 0 = (.str c5) → e 1 = (.str c6) → e 5 = (.int .i64 c7) → e 6 = (.int .i32 c8) → e 7 = (.bool (s9)) → ztS (e 11) m 11 c10 s11 → ztS (e 17) m 17 c12 s13 → ∀ (K : Ex → St → Option Res) (R : Option Res), zep c5 c6 c7 c8 c10 c12 K R out → zc0 (zbX cfg (dfn cfg n) n znd) K k ⟨e, m⟩ = R := by
 intro k
 induction k with
 | zero => intro s9 s11 s13 out h; cases h
 | succ k ih => ?_
 intro s9 s11 s13 out h
 have ih := fun x0 x1 x2 {out} => @ih x0 x1 x2 out
 unfold zcy at h
 have E := evT
 rcases zae h with ⟨h1_, h⟩ | ⟨h1_, h⟩
 have p2_ := zGG h1_
 rcases Bool.eq_false_or_eq_true ((s9)) with h3_ | h3_
 rotate_left
 rotate_left
 have p4_ := zGH h1_
 rotate_left
 all_goals
  first | (obtain rfl := Option.some.inj h; refine E.l fun n k x => ?_) | refine E.c (ih _ _ _ h) fun n k x I => ?_
  intro e m i0 i1 i2 i3 i4 i5 i6 K R hK
  obtain ⟨_, _, _⟩ := i5
  obtain ⟨_, _, _⟩ := i6
  rw [zaB]
  (conv => lhs; arg 4; whnf)
  first | (simp -dsimp -implicitDefEqProofs only [go_sem, *, simprocAttr]; refine zai (I.1 _ _ ?_ ?_ ?_ ?_ ?_ ?_ ?_ _ _ hK); (iterate 7 (simp -dsimp -implicitDefEqProofs only [go_sem, *, simprocAttr]))) | (simp -dsimp -implicitDefEqProofs only [go_sem, *, simprocAttr]; simp only [zep] at hK; refine hK _ _ ?_ ?_ ?_ ?_ ?_; (iterate 5 (simp -dsimp -implicitDefEqProofs only [go_sem, *, simprocAttr])))
def zcp (c1 : Str) (c2 : Str) (c3 : Str) (K : Ex → St → Option Res) (R : Option Res) : Out (Str) (Nat) → Prop
 | .ret r => ∀ (e : Env) (m : Mem), e 4 = (.str r) → K .ret ⟨e, m⟩ = R
 | .done q => ∀ (e : Env) (m : Mem), K (.exit 0) ⟨e, m⟩ = R
noncomputable def zne : Code := zb4 f192 [1, 0, 1, 0, 0]
theorem zii {c1 : Str} {c2 : Str} {c3 : Str} {kk : Nat} : ∀ {k : Nat} {s4 : Nat} {out : Out (Str) (Nat)}, zcz c1 c2 c3 kk k s4 = some out → ∃ N, ∀ n, N ≤ n → ∀ k, N ≤ k → ∀ (e : Env) (m : Mem), e 0 = (.str c1) → e 1 = (.str c2) → ztS (e 11) m 11 c3 s4 → ∀ (K : Ex → St → Option Res) (R : Option Res), zcp c1 c2 c3 K R out → zc0 (zbX cfg (dfn cfg n) n zne) K k ⟨e, m⟩ = R := by
 intro k
 induction k with
 | zero => intro s4 out h; cases h
 | succ k ih => ?_
 intro s4 out h
 have ih := fun x0 {out} => @ih x0 out
 unfold zcz at h
 have E := evT
 rcases zae h with ⟨h5_, h⟩ | ⟨h5_, h⟩
 have p6_ := zGG h5_
 rcases zbj h with ⟨r9_, o8_, h⟩ | ⟨q14, o8_, h⟩
 obtain ⟨_, l7_, E⟩ := E.lp (zih o8_)
 rotate_left
 obtain ⟨_, l10_, E⟩ := E.lp (zih o8_)
 rcases zae h with ⟨h11_, h⟩ | ⟨h11_, h⟩
 have b12_ := zar h11_
 obtain ⟨y15, h13_, h⟩ := zaa h
 have h13_ : zeC prog (some (.int .i64 (s4 : Int))) none none (.str c1) .str = pure (.str y15) := zjN h13_ prog
 rotate_left
 have b14_ := zan h11_
 rotate_left
 have p15_ := zGH h5_
 rotate_left
 all_goals
  first | (obtain rfl := Option.some.inj h; refine E.l fun n k x => ?_) | refine E.c (ih _ h) fun n k x I => ?_
  intro e m i0 i1 i2 K R hK
  obtain ⟨_, _, _⟩ := i2
  rw [zaB]
  (conv => lhs; arg 4; whnf)
  first | (have := l7_; simp -dsimp -implicitDefEqProofs only [go_sem, *, simprocAttr]; refine zai (l7_.1 n (by omega) _ _ ?_ ?_ ?_ ?_ ?_ ?_ ?_ _ _ ?_); (iterate 7 (simp -dsimp -implicitDefEqProofs only [go_sem, *, simprocAttr])); simp only [zep]; intro e m i0; (try simp -dsimp -implicitDefEqProofs only [go_sem, *, simprocAttr]); simp only [zcp] at hK; refine hK _ _ ?_; simp -dsimp -implicitDefEqProofs only [go_sem, *, simprocAttr]) | (have := l10_; simp -dsimp -implicitDefEqProofs only [go_sem, *, simprocAttr]; refine zai (l10_.1 n (by omega) _ _ ?_ ?_ ?_ ?_ ?_ ?_ ?_ _ _ ?_); (iterate 7 (simp -dsimp -implicitDefEqProofs only [go_sem, *, simprocAttr])); simp only [zep]; intro e m i0 i1 i2 i3 i4; obtain ⟨_, _, _⟩ := i4; (first | ((try simp -dsimp -implicitDefEqProofs only [go_sem, *, simprocAttr]); simp only [zcp] at hK; refine hK _ _ ?_; simp -dsimp -implicitDefEqProofs only [go_sem, *, simprocAttr]) | ((try simp -dsimp -implicitDefEqProofs only [go_sem, *, simprocAttr]); refine zai (I.1 _ _ ?_ ?_ ?_ _ _ hK); (iterate 3 (simp -dsimp -implicitDefEqProofs only [go_sem, *, simprocAttr]))))) | ((try simp -dsimp -implicitDefEqProofs only [go_sem, *, simprocAttr]); simp only [zcp] at hK; refine hK _ _)
theorem zoS {kk : Nat} {a : Str} {b : Str} {r : Str} (h : zfz kk a b = some r) : Ev cfg 192 [(.str a), (.str b)] (.str r) := by
 unfold zfz at h
 have E := evT
 rcases zbj h with ⟨r18_, o17_, h⟩ | ⟨q16, o17_, h⟩
 obtain ⟨_, l16_, E⟩ := E.lp (zii o17_)
 rotate_left
 obtain ⟨_, l19_, E⟩ := E.lp (zii o17_)
 rotate_left
 all_goals
  obtain rfl := Option.some.inj h
  refine E.s fun n x => ?_
  first | (have := l16_; simp -dsimp -implicitDefEqProofs only [go_sem, func192, f192, *, simprocAttr]; refine zai (l16_.1 n (by omega) _ _ ?_ ?_ ?_ _ _ ?_); (iterate 3 (simp -dsimp -implicitDefEqProofs only [go_sem, *, simprocAttr])); simp only [zcp]; intro e m i0; simp -dsimp -implicitDefEqProofs only [go_sem, func192, f192, *, simprocAttr]) | (have := l19_; simp -dsimp -implicitDefEqProofs only [go_sem, func192, f192, *, simprocAttr]; refine zai (l19_.1 n (by omega) _ _ ?_ ?_ ?_ _ _ ?_); (iterate 3 (simp -dsimp -implicitDefEqProofs only [go_sem, *, simprocAttr])); simp only [zcp]; intro e m; simp -dsimp -implicitDefEqProofs only [go_sem, func192, f192, *, simprocAttr])
theorem zo5 (a : Str) (b : Str) (h : a.length < lim ∧ b.length < lim ∧ zBo b = true) : Ev cfg 192 [(.str a), (.str b)] (.str (zmN a b)) := zoS (zm5 (kk := big) a b h)
theorem zl9 {kk : Nat} {a : zab} {b : Str} {r : Bool × zab} (h : zfN kk a b = some r) : ∃ N, ∀ n, N ≤ n → ∀ g0_, dfn cfg n 106 [(.ptr (.arg 0) g0_ 0 0), (.str b)] [.rows g0_ false true 1 [zac a]] = some ⟨(.bool r.1), [.rows g0_ false true 1 [zac r.2]], []⟩ := by
 unfold zfN at h
 have E := evT
 have E := E.and (zkK a.rest b)
 obtain rfl := Option.some.inj h
 refine E.s fun n x g0_ => ?_
 simp -dsimp -implicitDefEqProofs only [go_sem, func106, f106, *, simprocAttr] <;> simp -dsimp -implicitDefEqProofs only [go_sem, func106, f106, ze7, *, simprocAttr]
theorem zaq (a : zab) (b : Str) : ∃ N, ∀ n, N ≤ n → ∀ g0_, dfn cfg n 106 [(.ptr (.arg 0) g0_ 0 0), (.str b)] [.rows g0_ false true 1 [zac a]] = some ⟨(.bool ((zaG a b).1)), [.rows g0_ false true 1 [zac ((zaG a b).2)]], []⟩ := zl9 (zkG 0 a b)
theorem zmV {kk : Nat} {a : zab} {b : Str} {r : Str × zab} (h : zer kk a b = some r) : ∃ N, ∀ n, N ≤ n → ∀ g0_, dfn cfg n 173 [(.ptr (.arg 0) g0_ 0 0), (.str b)] [.rows g0_ false true 1 [zac a]] = some ⟨(.str r.1), [.rows g0_ false true 1 [zac r.2]], []⟩ := by
 unfold zer at h
 have E := evT
 obtain ⟨_, h1_, h⟩ := zaa h
 have E := E.and (zo5 a.rest b (zah h1_))
 obtain ⟨y2, h2_, h⟩ := zaa h
 have h2_ : zeC prog none (some (.int .i64 (IntKind.wrap .i64 ((a.rest.length : Int) - ((zmN a.rest b).length : Int))))) none (.str a.rest) .str = pure (.str y2) := zjN h2_ prog
 obtain rfl := Option.some.inj h
 refine E.s fun n x g0_ => ?_
 simp -dsimp -implicitDefEqProofs only [go_sem, func173, f173, *, simprocAttr] <;> simp -dsimp -implicitDefEqProofs only [go_sem, func173, f173, ze7, *, simprocAttr]
theorem zgd (a : zab) (b : Str) (h : a.rest.length < lim ∧ b.length < lim ∧ zBo b = true) : ∃ N, ∀ n, N ≤ n → ∀ g0_, dfn cfg n 173 [(.ptr (.arg 0) g0_ 0 0), (.str b)] [.rows g0_ false true 1 [zac a]] = some ⟨(.str ((zkj a b).1)), [.rows g0_ false true 1 [zac ((zkj a b).2)]], []⟩ := zmV (zkW 0 a b h)
theorem zkS {kk : Nat} {a : zab} {r : Int × Bool × zab} (h : zc8 kk a = some r) : ∃ N, ∀ n, N ≤ n → ∀ g0_, dfn cfg n 146 [(.ptr (.arg 0) g0_ 0 0)] [.rows g0_ false true 1 [zac a]] = some ⟨(.tup [(.int .i64 r.1), (.bool r.2.1)]), [.rows g0_ false true 1 [zac r.2.2]], []⟩ := by
 unfold zc8 at h
 have E := evT
 obtain ⟨_, h1_, h⟩ := zaa h
 have E := E.and (zgd a [48, 49, 50, 51, 52, 53, 54, 55, 56, 57] (zah h1_))
 obtain ⟨_, h2_, h⟩ := zaa h
 have e3_ := zqf zqi ((zkj a [48, 49, 50, 51, 52, 53, 54, 55, 56, 57]).1) 10 64 (zah h2_)
 obtain rfl := Option.some.inj h
 refine E.s fun n x g0_ => ?_
 simp -dsimp -implicitDefEqProofs only [go_sem, func146, f146, *, simprocAttr] <;> simp -dsimp -implicitDefEqProofs only [go_sem, func146, f146, ze7, *, simprocAttr]
theorem zhn (a : zab) (h : a.rest.length < lim) : ∃ N, ∀ n, N ≤ n → ∀ g0_, dfn cfg n 146 [(.ptr (.arg 0) g0_ 0 0)] [.rows g0_ false true 1 [zac a]] = some ⟨(.tup [(.int .i64 ((zjq a).1)), (.bool ((zjq a).2.1))]), [.rows g0_ false true 1 [zac ((zjq a).2.2)]], []⟩ := zkS (zjw 0 a h)
theorem zrB {kk : Nat} {a : Int} {r : Bool} (h : ziS kk a = some r) : Ev cfg 209 [(.int .i32 a)] (.bool r) := by
 unfold ziS at h
 have E := evT
 rcases Bool.eq_false_or_eq_true ((decide (48 ≤ a))) with h1_ | h1_
 rotate_left
 rotate_left
 all_goals
  obtain rfl := Option.some.inj h
  refine E.s fun n x => ?_
  simp -dsimp -implicitDefEqProofs only [go_sem, func209, f209, *, simprocAttr]
theorem zrP (a : Int) : Ev cfg 209 [(.int .i32 a)] (.bool (ztm a)) := zrB (zoW 0 a)
theorem zrA {kk : Nat} {a : Int} {r : Bool} (h : zhf kk a = some r) : ∃ N, ∀ n, N ≤ n → ∀ g0_, dfn cfg n 211 [(.int .i32 a), (.ptr (.arg 0) g0_ 0 0)] [.rows g0_ false false 1 [[(.fn (.func 209) [] [])]]] = some ⟨(.bool r), [.rows g0_ false false 1 [[(.fn (.func 209) [] [])]]], []⟩ := by
 unfold zhf at h
 have E := evT
 have E := E.and (zrP a)
 obtain rfl := Option.some.inj h
 refine E.s fun n x g0_ => ?_
 simp -dsimp -implicitDefEqProofs only [go_sem, func211, f211, *, simprocAttr]
def zbq (c1 : Bool) (c2 : Str) (g0_ : Nat) (K : Ex → St → Option Res) (R : Option Res) : Out (Int) (Nat) → Prop
 | .ret r => ∀ (e : Env) (m : Mem), e 6 = (.int .i64 r) → m (.arg 0) = some (.rows g0_ false false 1 [[(.fn (.func 209) [] [])]]) → K .ret ⟨e, m⟩ = R
 | .done q => ∀ (e : Env) (m : Mem), m (.arg 0) = some (.rows g0_ false false 1 [[(.fn (.func 209) [] [])]]) → K (.exit 0) ⟨e, m⟩ = R
noncomputable def zgy : Code := zb4 f234 [1, 0, 1, 0, 0]
theorem zdb {c1 : Bool} {c2 : Str} {kk : Nat} : ∀ {k : Nat} {s3 : Nat} {out : Out (Int) (Nat)}, za9 c1 c2 kk k s3 = some out → ∃ N, ∀ n, N ≤ n → ∀ k, N ≤ k → ∀ g0_, ∀ (e : Env) (m : Mem), e 1 = (.fn (.func 211) [] [(.ptr (.arg 0) g0_ 0 0)]) → e 2 = (.bool (c1)) → ztS (e 10) m 10 c2 s3 → m (.arg 0) = some (.rows g0_ false false 1 [[(.fn (.func 209) [] [])]]) → ∀ (K : Ex → St → Option Res) (R : Option Res), zbq c1 c2 g0_ K R out → zc0 (zbX cfg (dfn cfg n) n zgy) K k ⟨e, m⟩ = R := by
 intro k
 induction k with
 | zero => intro s3 out h; cases h
 | succ k ih => ?_
 intro s3 out h
 have ih := fun x0 {out} => @ih x0 out
 unfold za9 at h
 have E := evT
 rcases zae h with ⟨h1_, h⟩ | ⟨h1_, h⟩
 have p2_ := zGG h1_
 obtain ⟨r4, h3_, h⟩ := zaa h
 have E := E.and (zrA h3_)
 rcases zae h with ⟨h4_, h⟩ | ⟨h4_, h⟩
 rcases zeP h4_ with b5_ | ⟨b5_, b6_⟩
 obtain ⟨b7_, b8_⟩ := zcK b5_
 rotate_left
 rcases zcd b5_ with b9_ | ⟨b9_, b10_⟩
 obtain ⟨b11_, b12_⟩ := zcK b6_
 have b13_ := zar b11_
 have b14_ := zar b12_
 rotate_left
 obtain ⟨b15_, b16_⟩ := zcK b6_
 have b17_ := zar b15_
 have b18_ := zar b16_
 exact absurd (b9_.symm.trans b17_) (by decide)
 obtain ⟨b19_, b20_⟩ := zca h4_
 rcases zcd b19_ with b21_ | ⟨b21_, b22_⟩
 rcases zcd b20_ with b23_ | ⟨b23_, b24_⟩
 have b25_ := zan b23_
 exact absurd (b21_.symm.trans b25_) (by decide)
 have b26_ := zar b23_
 have b27_ := zan b24_
 rotate_left
 rcases zcd b20_ with b28_ | ⟨b28_, b29_⟩
 have b30_ := zan b28_
 rotate_left
 have b31_ := zar b28_
 have b32_ := zan b29_
 exact absurd (b21_.symm.trans b31_) (by decide)
 have p33_ := zGH h1_
 rotate_left
 all_goals
  first | (obtain rfl := Option.some.inj h; refine E.l fun n k x => ?_) | refine E.c (ih _ h) fun n k x I => ?_
  intro g0_ e m i0 i1 i2 i3 K R hK
  obtain ⟨_, _, _⟩ := i2
  rw [zaB]
  (conv => lhs; arg 4; whnf)
  first | (simp -dsimp -implicitDefEqProofs only [go_sem, *, simprocAttr]; simp only [zbq] at hK; refine hK _ _ ?_ ?_; (iterate 2 (simp -dsimp -implicitDefEqProofs only [go_sem, *, simprocAttr]))) | (simp -dsimp -implicitDefEqProofs only [go_sem, *, simprocAttr]; refine zai (I.1 g0_ _ _ ?_ ?_ ?_ ?_ _ _ hK); (iterate 4 (simp -dsimp -implicitDefEqProofs only [go_sem, *, simprocAttr]))) | (simp -dsimp -implicitDefEqProofs only [go_sem, *, simprocAttr]; simp only [zbq] at hK; refine hK _ _ ?_; simp -dsimp -implicitDefEqProofs only [go_sem, *, simprocAttr])
theorem zhb {kk : Nat} {a : Str} {c : Bool} {r : Int} (h : zbM kk a c = some r) : ∃ N, ∀ n, N ≤ n → ∀ g0_, dfn cfg n 234 [(.str a), (.fn (.func 211) [] [(.ptr (.arg 0) g0_ 0 0)]), (.bool (c))] [.rows g0_ false false 1 [[(.fn (.func 209) [] [])]]] = some ⟨(.int .i64 r), [.rows g0_ false false 1 [[(.fn (.func 209) [] [])]]], []⟩ := by
 unfold zbM at h
 have E := evT
 rcases zbj h with ⟨r36_, o35_, h⟩ | ⟨q5, o35_, h⟩
 obtain ⟨_, l34_, E⟩ := E.lp (zdb o35_)
 rotate_left
 obtain ⟨_, l37_, E⟩ := E.lp (zdb o35_)
 rotate_left
 all_goals
  obtain rfl := Option.some.inj h
  refine E.s fun n x g0_ => ?_
  first | (have := l34_; simp -dsimp -implicitDefEqProofs only [go_sem, func234, f234, *, simprocAttr]; refine zai (l34_.1 n (by omega) g0_ _ _ ?_ ?_ ?_ ?_ _ _ ?_); (iterate 4 (simp -dsimp -implicitDefEqProofs only [go_sem, *, simprocAttr])); simp only [zbq]; intro e m i0 i1; simp -dsimp -implicitDefEqProofs only [go_sem, func234, f234, *, simprocAttr]) | (have := l37_; simp -dsimp -implicitDefEqProofs only [go_sem, func234, f234, *, simprocAttr]; refine zai (l37_.1 n (by omega) g0_ _ _ ?_ ?_ ?_ ?_ _ _ ?_); (iterate 4 (simp -dsimp -implicitDefEqProofs only [go_sem, *, simprocAttr])); simp only [zbq]; intro e m i0; simp -dsimp -implicitDefEqProofs only [go_sem, func234, f234, *, simprocAttr])
theorem zhc {kk : Nat} {a : Str} {r : Int} (h : zbN kk a = some r) : ∃ N, ∀ n, N ≤ n → ∀ g0_, dfn cfg n 223 [(.str a), (.fn (.func 211) [] [(.ptr (.arg 0) g0_ 0 0)])] [.rows g0_ false false 1 [[(.fn (.func 209) [] [])]]] = some ⟨(.int .i64 r), [.rows g0_ false false 1 [[(.fn (.func 209) [] [])]]], []⟩ := by
 unfold zbN at h
 have E := evT
 obtain ⟨r1, h1_, h⟩ := zaa h
 have E := E.and (zhb h1_)
 obtain rfl := Option.some.inj h
 refine E.s fun n x g0_ => ?_
 simp -dsimp -implicitDefEqProofs only [go_sem, func223, f223, *, simprocAttr]
theorem zgv {kk : Nat} {a : Str} {r : Bool} (h : zbr kk a = some r) : ∃ N, ∀ n, N ≤ n → ∀ g0_, dfn cfg n 210 [(.str a), (.fn (.func 211) [] [(.ptr (.arg 0) g0_ 0 0)])] [.rows g0_ false false 1 [[(.fn (.func 209) [] [])]]] = some ⟨(.bool r), [.rows g0_ false false 1 [[(.fn (.func 209) [] [])]]], []⟩ := by
 unfold zbr at h
 have E := evT
 obtain ⟨r1, h1_, h⟩ := zaa h
 have E := E.and (zhc h1_)
 obtain rfl := Option.some.inj h
 refine E.s fun n x g0_ => ?_
 simp -dsimp -implicitDefEqProofs only [go_sem, func210, f210, *, simprocAttr]
def zik (c1 : Str) (K : Ex → St → Option Res) (R : Option Res) (q : Bool) : Prop := ∀ (e : Env) (m : Mem), e 0 = (.str c1) → e 18 = (.bool (q)) → K .normal ⟨e, m⟩ = R
noncomputable def zlm : Code := zb4 f194 [1, 1, 0, 0]
theorem zqM {c1 : Str} {kk : Nat} {out : Bool} (h : zfK c1 kk = some out) : ∃ N, ∀ n, N ≤ n → ∀ (e : Env) (m : Mem), e 0 = (.str c1) → zxT (e 4) m 4 1 [(.fn (.func 209) [] [])] → ∀ (K : Ex → St → Option Res) (R : Option Res), zik c1 K R out → zbX cfg (dfn cfg n) n zlm K ⟨e, m⟩ = R := by
 unfold zfK at h
 have E := evT
 rcases zae h with ⟨h1_, h⟩ | ⟨h1_, h⟩
 have b2_ := zar h1_
 obtain ⟨y2, h3_, h⟩ := zaa h
 rcases zae h with ⟨h4_, h⟩ | ⟨h4_, h⟩
 have b5_ := zar h4_
 obtain ⟨r3, h6_, h⟩ := zaa h
 have E := E.and (zgv h6_)
 rotate_left
 have b7_ := zan h4_
 rotate_left
 have b8_ := zan h1_
 rotate_left
 all_goals
  obtain rfl := Option.some.inj h
  refine E.j fun n x => ?_
  intro e m i0 i1 K R hK
  obtain ⟨_, _, _⟩ := i1
  (conv => lhs; arg 4; whnf)
  simp -dsimp -implicitDefEqProofs only [go_sem, *, simprocAttr]
  simp only [zik] at hK
  refine hK _ _ ?_ ?_
  (iterate 2 (simp -dsimp -implicitDefEqProofs only [go_sem, *, simprocAttr]))
theorem ztP {kk : Nat} {a : Str} {r : Int × Int} (h : zin kk a = some r) : Ev cfg 194 [(.str a)] (.tup [(.int .i64 r.1), (.int .i64 r.2)]) := by
 unfold zin at h
 have E := evT
 obtain ⟨q4, o10_, h⟩ := zaa h
 obtain ⟨_, l9_, E⟩ := E.lj (zqM o10_)
 rcases zae h with ⟨h12_, h⟩ | ⟨h12_, h⟩
 rotate_left
 obtain ⟨_, h13_, h⟩ := zaa h
 have e14_ := zCr zqi a (zah h13_)
 rcases zae h with ⟨h15_, h⟩ | ⟨h15_, h⟩
 have b16_ := zar h15_
 rotate_left
 have b17_ := zan h15_
 rotate_left
 all_goals
  obtain rfl := Option.some.inj h
  refine E.s fun n x => ?_
  have j0 := zgq cfg (dfn cfg n) n zlm
  (conv at j0 => intro k s; lhs; arg 4; whnf)
  simp -dsimp -implicitDefEqProofs only [go_sem, ↓j0, func194, f194, *, simprocAttr]
  refine zg5 (l9_.1 n (by omega) _ _ ?_ ?_ _ _ ?_)
  (iterate 2 (simp -dsimp -implicitDefEqProofs only [go_sem, *, simprocAttr]))
  simp only [zik]
  intro e m i0 i1
  simp -dsimp -implicitDefEqProofs only [go_sem, ↓j0, func194, f194, *, simprocAttr]
theorem zoo (a : Str) (h : a.length < lim) : Ev cfg 194 [(.str a)] (.tup [(.int .i64 ((zhu a).1)), (.int .i64 ((zhu a).2))]) := ztP (zqQ (kk := big) a h)
theorem zur {kk : Nat} {a : Str} {r : zcc × Int} (h : zi1 kk a = some r) : Ev cfg 174 [(.str a)] (.tup [(.agg (ze6 r.1)), (.int .i64 r.2)]) := by
 unfold zi1 at h
 have E := evT
 have E := E.and (zkK a [116])
 obtain ⟨_, h1_, h⟩ := zaa h
 have e2_ := zEJ ((zfQ a [116]).1) [46] (zah h1_)
 rcases zae h with ⟨h3_, h⟩ | ⟨h3_, h⟩
 rcases zeP h3_ with b4_ | ⟨b4_, b5_⟩
 have b6_ := zar b4_
 rotate_left
 have b7_ := zan b4_
 have b8_ := zar b5_
 rotate_left
 obtain ⟨b9_, b10_⟩ := zca h3_
 have b11_ := zan b9_
 have b12_ := zan b10_
 obtain ⟨_, h13_, h⟩ := zaa h
 have E := E.and (zoo ((zwd ((zfQ a [116]).1) [46]).1) (zah h13_))
 obtain ⟨_, h14_, h⟩ := zaa h
 have E := E.and (zoo ((zwd ((zfQ a [116]).1) [46]).2.1) (zah h14_))
 rcases zae h with ⟨h15_, h⟩ | ⟨h15_, h⟩
 rcases zeP h15_ with b16_ | ⟨b16_, b17_⟩
 rotate_left
 rotate_left
 obtain ⟨b18_, b19_⟩ := zca h15_
 rcases zae h with ⟨h20_, h⟩ | ⟨h20_, h⟩
 rcases zeP h20_ with b21_ | ⟨b21_, b22_⟩
 rotate_left
 rotate_left
 obtain ⟨b23_, b24_⟩ := zca h20_
 rotate_left
 all_goals
  obtain rfl := Option.some.inj h
  refine E.s fun n x => ?_
  simp -dsimp -implicitDefEqProofs only [go_sem, func174, f174, *, simprocAttr]
theorem zuu (a : Str) (h : a.length < lim) : Ev cfg 174 [(.str a)] (.tup [(.agg (ze6 ((zhZ a).1))), (.int .i64 ((zhZ a).2))]) := zur (zrN (kk := big) a h)
def zij (c1 : Str) (K : Ex → St → Option Res) (R : Option Res) (q : Bool) : Prop := ∀ (e : Env) (m : Mem), e 0 = (.str c1) → e 20 = (.bool (q)) → K .normal ⟨e, m⟩ = R
noncomputable def zll : Code := zb4 f225 [1, 0, 0]
theorem zqL {c1 : Str} {kk : Nat} {out : Bool} (h : zfJ c1 kk = some out) : ∃ N, ∀ n, N ≤ n → ∀ (e : Env) (m : Mem), e 0 = (.str c1) → ∀ (K : Ex → St → Option Res) (R : Option Res), zij c1 K R out → zbX cfg (dfn cfg n) n zll K ⟨e, m⟩ = R := by
 unfold zfJ at h
 have E := evT
 rcases zae h with ⟨h1_, h⟩ | ⟨h1_, h⟩
 have b2_ := zar h1_
 obtain ⟨y2, h3_, h⟩ := zaa h
 rcases zae h with ⟨h4_, h⟩ | ⟨h4_, h⟩
 have b5_ := zar h4_
 obtain ⟨y3, h6_, h⟩ := zaa h
 obtain ⟨_, h7_⟩ := zbK h6_
 rotate_left
 have b8_ := zan h4_
 rotate_left
 have b9_ := zan h1_
 rotate_left
 all_goals
  obtain rfl := Option.some.inj h
  refine E.j fun n x => ?_
  intro e m i0 K R hK
  (conv => lhs; arg 4; whnf)
  simp -dsimp -implicitDefEqProofs only [go_sem, *, simprocAttr]
  simp only [zij] at hK
  refine hK _ _ ?_ ?_
  (iterate 2 (simp -dsimp -implicitDefEqProofs only [go_sem, *, simprocAttr]))
theorem ztN {kk : Nat} {a : Str} {r : Str × Bool} (h : zil kk a = some r) : Ev cfg 225 [(.str a)] (.tup [(.str r.1), (.bool r.2)]) := by
 unfold zil at h
 have E := evT
 obtain ⟨q4, o11_, h⟩ := zaa h
 obtain ⟨_, l10_, E⟩ := E.lj (zqL o11_)
 rcases zae h with ⟨h13_, h⟩ | ⟨h13_, h⟩
 rotate_left
 obtain ⟨y5, h14_, h⟩ := zaa h
 have h14_ : zeC prog (some (.int .i64 1)) (some (.int .i64 (IntKind.wrap .i64 ((a.length : Int) - 1)))) none (.str a) .str = pure (.str y5) := zjN h14_ prog
 obtain ⟨_, h15_, h⟩ := zaa h
 have e16_ := zkk y5 [39, 39] [] (zah h15_)
 obtain ⟨_, h17_, h⟩ := zaa h
 have e18_ := zkk y5 [39, 39] [39] (zah h17_)
 obtain ⟨_, h19_, h⟩ := zaa h
 have e20_ := zvE (zkg y5 [39, 39] []) [39] (zah h19_)
 rotate_left
 all_goals
  obtain rfl := Option.some.inj h
  refine E.s fun n x => ?_
  have j0 := zgq cfg (dfn cfg n) n zll
  (conv at j0 => intro k s; lhs; arg 4; whnf)
  simp -dsimp -implicitDefEqProofs only [go_sem, ↓j0, func225, f225, *, simprocAttr]
  refine zg5 (l10_.1 n (by omega) _ _ ?_ _ _ ?_)
  simp -dsimp -implicitDefEqProofs only [go_sem, *, simprocAttr]
  simp only [zij]
  intro e m i0 i1
  simp -dsimp -implicitDefEqProofs only [go_sem, ↓j0, func225, f225, *, simprocAttr]
theorem ztU (a : Str) (h : a.length < lim) : Ev cfg 225 [(.str a)] (.tup [(.str ((zk6 a).1)), (.bool ((zk6 a).2))]) := ztN (zqO 0 a h)
theorem zrz {kk : Nat} {a : Str} {r : Bool} (h : zhe kk a = some r) : Ev cfg 226 [(.str a)] (.bool r) := by
 unfold zhe at h
 have E := evT
 have E := E.and (zo2 a [45])
 rcases zae h with ⟨h1_, h⟩ | ⟨h1_, h⟩
 have b2_ := zar h1_
 obtain ⟨y1, h3_, h⟩ := zaa h
 rcases zae h with ⟨h4_, h⟩ | ⟨h4_, h⟩
 obtain ⟨b5_, b6_⟩ := zcK h4_
 have b7_ := zar b6_
 rotate_left
 rcases zcd h4_ with b8_ | ⟨b8_, b9_⟩
 obtain ⟨_, h11_, h⟩ := zaa h
 have e12_ := zwZ (ziC a [45]) [48, 49, 50, 51, 52, 53, 54, 55, 56, 57] (zah h11_)
 rotate_left
 have b10_ := zan b9_
 obtain ⟨_, h13_, h⟩ := zaa h
 have e14_ := zwZ (ziC a [45]) [48, 49, 50, 51, 52, 53, 54, 55, 56, 57] (zah h13_)
 rotate_left
 have b15_ := zan h1_
 rotate_left
 all_goals
  obtain rfl := Option.some.inj h
  refine E.s fun n x => ?_
  simp -dsimp -implicitDefEqProofs only [go_sem, func226, f226, *, simprocAttr]
theorem zrO (a : Str) (h : a.length < lim) : Ev cfg 226 [(.str a)] (.bool (zuU a)) := zrz (zoV 0 a h)
theorem zwn {kk : Nat} {a : Str} {r : Val × Int} (h : zj4 kk a = some r) : Ev cfg 214 [(.str a)] (.tup [(.agg (zfR r.1)), (.int .i64 r.2)]) := by
 unfold zj4 at h
 have E := evT
 rcases zae h with ⟨h1_, h⟩ | ⟨h1_, h⟩
 rotate_left
 rcases zae h with ⟨h2_, h⟩ | ⟨h2_, h⟩
 rotate_left
 obtain ⟨_, h3_, h⟩ := zaa h
 have E := E.and (ztU a (zah h3_))
 rcases zae h with ⟨h4_, h⟩ | ⟨h4_, h⟩
 rcases zae h with ⟨h5_, h⟩ | ⟨h5_, h⟩
 rotate_left
 rotate_left
 obtain ⟨_, h6_, h⟩ := zaa h
 have E := E.and (zrO a (zah h6_))
 rcases zae h with ⟨h7_, h⟩ | ⟨h7_, h⟩
 have b8_ := zar h7_
 rotate_left
 have b9_ := zan h7_
 obtain ⟨_, h10_, h⟩ := zaa h
 have e11_ := zqf zqi a 10 64 (zah h10_)
 rcases zae h with ⟨h12_, h⟩ | ⟨h12_, h⟩
 have b13_ := zar h12_
 rotate_left
 have b14_ := zan h12_
 rotate_left
 all_goals
  obtain rfl := Option.some.inj h
  refine E.s fun n x => ?_
  simp -dsimp -implicitDefEqProofs only [go_sem, func214, f214, *, simprocAttr]
theorem zqT (a : Str) (h : a.length < lim) : Ev cfg 214 [(.str a)] (.tup [(.agg (zfR ((zfo a).1))), (.int .i64 ((zfo a).2))]) := zwn (zsu 0 a h)
def zdG (c4 : Int) (c5 : zab) (c6 : Val) (g0_ : Nat) (K : Ex → St → Option Res) (R : Option Res) (q : Bool) : Prop := ∀ (e : Env) (m : Mem), e 0 = .ptr (.arg 0) g0_ 0 0 → zcS (e 2) m 2 3 (zfR c6) → e 5 = (.int .i64 c4) → e 37 = (.bool (q)) → m (.arg 0) = some (.rows g0_ false true 1 [zac c5]) → K .normal ⟨e, m⟩ = R
noncomputable def zfT : Code := zb4 f197 [1, 1, 0, 1, 0, 1, 0, 0, 0, 0, 0]
theorem zjf {c4 : Int} {c5 : zab} {c6 : Val} {kk : Nat} {out : Bool} (h : zcD c4 c5 c6 kk = some out) : ∃ N, ∀ n, N ≤ n → ∀ g0_, ∀ (e : Env) (m : Mem), e 0 = .ptr (.arg 0) g0_ 0 0 → zcS (e 2) m 2 3 (zfR c6) → e 5 = (.int .i64 c4) → m (.arg 0) = some (.rows g0_ false true 1 [zac c5]) → ∀ (K : Ex → St → Option Res) (R : Option Res), zdG c4 c5 c6 g0_ K R out → zbX cfg (dfn cfg n) n zfT K ⟨e, m⟩ = R := by
 unfold zcD at h
 have E := evT
 rcases zae h with ⟨h1_, h⟩ | ⟨h1_, h⟩
 obtain ⟨y7, h2_, h⟩ := zaa h
 obtain ⟨_, h3_⟩ := zbK h2_
 rcases zae h with ⟨h4_, h⟩ | ⟨h4_, h⟩
 have b5_ := zar h4_
 obtain ⟨y8, h6_, h⟩ := zaa h
 have h6_ : zeC prog (some (.int .i64 c4)) none none (.str c5.rest) .str = pure (.str y8) := zjN h6_ prog
 have E := E.and (zkJ y8 [39, 39])
 rotate_left
 have b7_ := zan h4_
 rotate_left
 rotate_left
 all_goals
  obtain rfl := Option.some.inj h
  refine E.j fun n x => ?_
  intro g0_ e m i0 i1 i2 i3 K R hK
  obtain ⟨_, _, _⟩ := i1
  (conv => lhs; arg 4; whnf)
  simp -dsimp -implicitDefEqProofs only [go_sem, *, simprocAttr]
  simp only [zdG] at hK
  refine hK _ _ ?_ ?_ ?_ ?_ ?_
  (iterate 5 (simp -dsimp -implicitDefEqProofs only [go_sem, *, simprocAttr]))
def zcw (c2 : zab) (c3 : Val) (g0_ : Nat) (K : Ex → St → Option Res) (R : Option Res) : Out (Val × Bool × zab) (Int) → Prop
 | .ret r => ∀ (e : Env) (m : Mem), zcS (e 2) m 2 3 (zfR r.1) → e 3 = (.bool r.2.1) → m (.arg 0) = some (.rows g0_ false true 1 [zac r.2.2]) → K .ret ⟨e, m⟩ = R
 | .done q => ∀ (e : Env) (m : Mem), e 0 = .ptr (.arg 0) g0_ 0 0 → zcS (e 2) m 2 3 (zfR c3) → e 5 = (.int .i64 q) → m (.arg 0) = some (.rows g0_ false true 1 [zac c2]) → K (.exit 0) ⟨e, m⟩ = R
noncomputable def zjm : Code := zb4 f197 [1, 1, 0, 1, 0, 1, 0, 0, 0]
theorem zfS {c2 : zab} {c3 : Val} {kk : Nat} : ∀ {k : Nat} {s1 : Int} {out : Out (Val × Bool × zab) (Int)}, zbv c2 c3 kk k s1 = some out → ∃ N, ∀ n, N ≤ n → ∀ k, N ≤ k → ∀ g0_, ∀ (e : Env) (m : Mem), e 0 = .ptr (.arg 0) g0_ 0 0 → zcS (e 2) m 2 3 (zfR c3) → e 5 = (.int .i64 s1) → m (.arg 0) = some (.rows g0_ false true 1 [zac c2]) → ∀ (K : Ex → St → Option Res) (R : Option Res), zcw c2 c3 g0_ K R out → zc0 (zbX cfg (dfn cfg n) n zjm) K k ⟨e, m⟩ = R := by
 intro k
 induction k with
 | zero => intro s1 out h; cases h
 | succ k ih => ?_
 intro s1 out h
 have ih := fun x0 {out} => @ih x0 out
 unfold zbv at h
 have E := evT
 obtain ⟨q9, o9_, h⟩ := zaa h
 obtain ⟨_, l8_, E⟩ := E.lj (zjf o9_)
 rcases zae h with ⟨h11_, h⟩ | ⟨h11_, h⟩
 obtain ⟨y10, h12_, h⟩ := zaa h
 obtain ⟨_, h13_⟩ := zbK h12_
 rcases zae h with ⟨h14_, h⟩ | ⟨h14_, h⟩
 rotate_left
 rotate_left
 rotate_left
 all_goals
  first | (obtain rfl := Option.some.inj h; refine E.l fun n k x => ?_) | refine E.c (ih _ h) fun n k x I => ?_
  intro g0_ e m i0 i1 i2 i3 K R hK
  obtain ⟨_, _, _⟩ := i1
  have j0 := zgq cfg (dfn cfg n) n zfT
  (conv at j0 => intro k s; lhs; arg 4; whnf)
  rw [zaB]
  (conv => lhs; arg 4; whnf)
  simp -dsimp -implicitDefEqProofs only [go_sem, ↓j0, *, simprocAttr]
  refine zg5 (l8_.1 n (by omega) g0_ _ _ ?_ ?_ ?_ ?_ _ _ ?_)
  (iterate 4 (simp -dsimp -implicitDefEqProofs only [go_sem, *, simprocAttr]))
  simp only [zdG]
  intro e m i0 i1 i2 i3 i4
  obtain ⟨_, _, _⟩ := i1
  first | ((try simp -dsimp -implicitDefEqProofs only [go_sem, ↓j0, *, simprocAttr]); refine zai (I.1 g0_ _ _ ?_ ?_ ?_ ?_ _ _ hK); (iterate 4 (simp -dsimp -implicitDefEqProofs only [go_sem, *, simprocAttr]))) | ((try simp -dsimp -implicitDefEqProofs only [go_sem, ↓j0, *, simprocAttr]); simp only [zcw] at hK; refine hK _ _ ?_ ?_ ?_ ?_; (iterate 4 (simp -dsimp -implicitDefEqProofs only [go_sem, *, simprocAttr])))
theorem zkv {kk : Nat} {a : zab} {r : Val × Bool × zab} (h : zcT kk a = some r) : ∃ N, ∀ n, N ≤ n → ∀ g0_, dfn cfg n 197 [(.ptr (.arg 0) g0_ 0 0)] [.rows g0_ false true 1 [zac a]] = some ⟨(.tup [(.agg (zfR r.1)), (.bool r.2.1)]), [.rows g0_ false true 1 [zac r.2.2]], []⟩ := by
 unfold zcT at h
 have E := evT
 have E := E.and (zkJ a.rest [39])
 rcases zae h with ⟨h15_, h⟩ | ⟨h15_, h⟩
 rcases zbj h with ⟨r18_, o17_, h⟩ | ⟨q11, o17_, h⟩
 obtain ⟨_, l16_, E⟩ := E.lp (zfS o17_)
 rotate_left
 obtain ⟨_, l19_, E⟩ := E.lp (zfS o17_)
 rcases zae h with ⟨h20_, h⟩ | ⟨h20_, h⟩
 rotate_left
 obtain ⟨y12, h21_, h⟩ := zaa h
 have h21_ : zeC prog none (some (.int .i64 (IntKind.wrap .i64 (q11 + 1)))) none (.str a.rest) .str = pure (.str y12) := zjN h21_ prog
 obtain ⟨y13, h22_, h⟩ := zaa h
 have h22_ : zeC prog (some (.int .i64 (IntKind.wrap .i64 (q11 + 1)))) none none (.str a.rest) .str = pure (.str y13) := zjN h22_ prog
 obtain ⟨_, h23_, h⟩ := zaa h
 have E := E.and (zqT y12 (zah h23_))
 rotate_left
 obtain ⟨_, h24_, h⟩ := zaa h
 have E := E.and (zgd a [45, 48, 49, 50, 51, 52, 53, 54, 55, 56, 57, 84, 82, 85, 69, 70, 65, 76, 83, 69] (zah h24_))
 obtain ⟨_, h25_, h⟩ := zaa h
 have E := E.and (zqT ((zkj a [45, 48, 49, 50, 51, 52, 53, 54, 55, 56, 57, 84, 82, 85, 69, 70, 65, 76, 83, 69]).1) (zah h25_))
 rotate_left
 all_goals
  obtain rfl := Option.some.inj h
  refine E.s fun n x g0_ => ?_
  first | (have := l16_; simp -dsimp -implicitDefEqProofs only [go_sem, func197, f197, *, simprocAttr]; refine zai (l16_.1 n (by omega) g0_ _ _ ?_ ?_ ?_ ?_ _ _ ?_); (iterate 4 (simp -dsimp -implicitDefEqProofs only [go_sem, *, simprocAttr])); simp only [zcw]; intro e m i0 i1 i2; obtain ⟨_, _, _⟩ := i0; simp -dsimp -implicitDefEqProofs only [go_sem, func197, f197, *, simprocAttr] <;> simp -dsimp -implicitDefEqProofs only [go_sem, func197, f197, ze7, *, simprocAttr]) | (have := l19_; simp -dsimp -implicitDefEqProofs only [go_sem, func197, f197, *, simprocAttr]; refine zai (l19_.1 n (by omega) g0_ _ _ ?_ ?_ ?_ ?_ _ _ ?_); (iterate 4 (simp -dsimp -implicitDefEqProofs only [go_sem, *, simprocAttr])); simp only [zcw]; intro e m i0 i1 i2 i3; obtain ⟨_, _, _⟩ := i1; simp -dsimp -implicitDefEqProofs only [go_sem, func197, f197, *, simprocAttr] <;> simp -dsimp -implicitDefEqProofs only [go_sem, func197, f197, ze7, *, simprocAttr]) | (simp -dsimp -implicitDefEqProofs only [go_sem, func197, f197, *, simprocAttr] <;> simp -dsimp -implicitDefEqProofs only [go_sem, func197, f197, ze7, *, simprocAttr])
theorem zgV (a : zab) (h : a.rest.length < lim) : ∃ N, ∀ n, N ≤ n → ∀ g0_, dfn cfg n 197 [(.ptr (.arg 0) g0_ 0 0)] [.rows g0_ false true 1 [zac a]] = some ⟨(.tup [(.agg (zfR ((zi6 a).1))), (.bool ((zi6 a).2.1))]), [.rows g0_ false true 1 [zac ((zi6 a).2.2)]], []⟩ := zkv (zjh (kk := big) a h)
end Go.Proofs.Tryz
set_option maxRecDepth 100000
set_option maxHeartbeats 4000000
set_option linter.unusedSimpArgs false
set_option linter.unusedVariables false
namespace Go.Proofs.Tryz
open Go.Ev
theorem zkR {kk : Nat} {a : Str} {u1 : zab} {r : Bool × zab} (h : zc7 kk a u1 = some r) : ∃ N, ∀ n, N ≤ n → ∀ g0_ g1_, dfn cfg n 196 [(.str a), (.ptr (.arg 0) g0_ 0 0)] [.rows g0_ false false 1 [[(.ptr (.arg 1) g1_ 0 0)]], .rows g1_ false true 1 [zac u1]] = some ⟨(.bool r.1), [.rows g0_ false false 1 [[(.ptr (.arg 1) g1_ 0 0)]], .rows g1_ false true 1 [zac r.2]], []⟩ := by
 unfold zc7 at h
 have E := evT
 obtain ⟨_, h1_, h⟩ := zaa h
 have h1_ := zah h1_
 try simp -dsimp -implicitDefEqProofs only [go_sem, simprocAttr] at h1_
 have E := E.and (zaq u1 (a ++ [123]))
 obtain rfl := Option.some.inj h
 refine E.s fun n x g0_ g1_ => ?_
 simp -dsimp -implicitDefEqProofs only [go_sem, func196, f196, *, simprocAttr] <;> simp -dsimp -implicitDefEqProofs only [go_sem, func196, f196, ze7, *, simprocAttr]
def zaL (c1 : Sl Str) (c2 : Int) (g0_ : Nat) (g1_ : Nat) (K : Ex → St → Option Res) (R : Option Res) : Out (Int × zab) (Int × zab) → Prop
 | .ret r => ∀ (e : Env) (m : Mem), e 4 = (.int .i64 r.1) → m (.arg 0) = some (.rows g0_ false false 1 [[(.ptr (.arg 1) g1_ 0 0)]]) → m (.arg 1) = some (.rows g1_ false true 1 [zac r.2]) → K .ret ⟨e, m⟩ = R
 | .done q => ∀ (e : Env) (m : Mem), m (.arg 0) = some (.rows g0_ false false 1 [[(.ptr (.arg 1) g1_ 0 0)]]) → m (.arg 1) = some (.rows g1_ false true 1 [zac q.2]) → K (.exit 0) ⟨e, m⟩ = R
noncomputable def zdS : Code := zb4 f195 [1, 0, 1, 0, 0]
theorem zb1 {c1 : Sl Str} {c2 : Int} {kk : Nat} : ∀ {k : Nat} {s3 : Int} {s4 : zab} {out : Out (Int × zab) (Int × zab)}, zay c1 c2 kk k s3 s4 = some out → ∃ N, ∀ n, N ≤ n → ∀ k, N ≤ k → ∀ g0_ g1_, ∀ (e : Env) (m : Mem), e 0 = (dSl zpm c1) → e 1 = (.fn (.func 196) [] [(.ptr (.arg 0) g0_ 0 0)]) → e 7 = (.int .i64 c2) → e 8 = (.int .i64 s3) → m (.arg 0) = some (.rows g0_ false false 1 [[(.ptr (.arg 1) g1_ 0 0)]]) → m (.arg 1) = some (.rows g1_ false true 1 [zac s4]) → ∀ (K : Ex → St → Option Res) (R : Option Res), zaL c1 c2 g0_ g1_ K R out → zc0 (zbX cfg (dfn cfg n) n zdS) K k ⟨e, m⟩ = R := by
 intro k
 induction k with
 | zero => intro s3 s4 out h; cases h
 | succ k ih => ?_
 intro s3 s4 out h
 have ih := fun x0 x1 {out} => @ih x0 x1 out
 unfold zay at h
 have E := evT
 rcases zae h with ⟨h1_, h⟩ | ⟨h1_, h⟩
 obtain ⟨y5, h2_, h⟩ := zaa h
 obtain ⟨_, h3_⟩ := zbK h2_
 have h3_ := zbs h3_ zpm
 obtain ⟨r6, h4_, h⟩ := zaa h
 have E := E.and (zkR h4_)
 rcases zae h with ⟨h5_, h⟩ | ⟨h5_, h⟩
 rotate_left
 rotate_left
 rotate_left
 all_goals
  first | (obtain rfl := Option.some.inj h; refine E.l fun n k x => ?_) | refine E.c (ih _ _ h) fun n k x I => ?_
  intro g0_ g1_ e m i0 i1 i2 i3 i4 i5 K R hK
  rw [zaB]
  (conv => lhs; arg 4; whnf)
  first | (simp -dsimp -implicitDefEqProofs only [go_sem, *, simprocAttr]; simp only [zaL] at hK; refine hK _ _ ?_ ?_ ?_; (iterate 3 (simp -dsimp -implicitDefEqProofs only [go_sem, *, simprocAttr]))) | (simp -dsimp -implicitDefEqProofs only [go_sem, *, simprocAttr]; refine zai (I.1 g0_ g1_ _ _ ?_ ?_ ?_ ?_ ?_ ?_ _ _ hK); (iterate 6 (simp -dsimp -implicitDefEqProofs only [go_sem, *, simprocAttr]))) | (simp -dsimp -implicitDefEqProofs only [go_sem, *, simprocAttr]; simp only [zaL] at hK; refine hK _ _ ?_ ?_; (iterate 2 (simp -dsimp -implicitDefEqProofs only [go_sem, *, simprocAttr])))
theorem zej {kk : Nat} {a : (Sl Str)} {u1 : zab} {r : Int × zab} (h : zbf kk a u1 = some r) : ∃ N, ∀ n, N ≤ n → ∀ g0_ g1_, dfn cfg n 195 [(dSl zpm a), (.fn (.func 196) [] [(.ptr (.arg 0) g0_ 0 0)])] [.rows g0_ false false 1 [[(.ptr (.arg 1) g1_ 0 0)]], .rows g1_ false true 1 [zac u1]] = some ⟨(.int .i64 r.1), [.rows g0_ false false 1 [[(.ptr (.arg 1) g1_ 0 0)]], .rows g1_ false true 1 [zac r.2]], []⟩ := by
 unfold zbf at h
 have E := evT
 rcases zbj h with ⟨r8_, o7_, h⟩ | ⟨q7, o7_, h⟩
 obtain ⟨_, l6_, E⟩ := E.lp (zb1 o7_)
 rotate_left
 obtain ⟨_, l9_, E⟩ := E.lp (zb1 o7_)
 rotate_left
 all_goals
  obtain rfl := Option.some.inj h
  refine E.s fun n x g0_ g1_ => ?_
  first | (have := l6_; simp -dsimp -implicitDefEqProofs only [go_sem, func195, f195, *, simprocAttr]; refine zai (l6_.1 n (by omega) g0_ g1_ _ _ ?_ ?_ ?_ ?_ ?_ ?_ _ _ ?_); (iterate 6 (simp -dsimp -implicitDefEqProofs only [go_sem, *, simprocAttr])); simp only [zaL]; intro e m i0 i1 i2; simp -dsimp -implicitDefEqProofs only [go_sem, func195, f195, *, simprocAttr] <;> simp -dsimp -implicitDefEqProofs only [go_sem, func195, f195, ze7, *, simprocAttr]) | (have := l9_; simp -dsimp -implicitDefEqProofs only [go_sem, func195, f195, *, simprocAttr]; refine zai (l9_.1 n (by omega) g0_ g1_ _ _ ?_ ?_ ?_ ?_ ?_ ?_ _ _ ?_); (iterate 6 (simp -dsimp -implicitDefEqProofs only [go_sem, *, simprocAttr])); simp only [zaL]; intro e m i0 i1; simp -dsimp -implicitDefEqProofs only [go_sem, func195, f195, *, simprocAttr] <;> simp -dsimp -implicitDefEqProofs only [go_sem, func195, f195, ze7, *, simprocAttr])
theorem zkQ {kk : Nat} {a : Str} {u1 : zab} {r : Bool × zab} (h : zc6 kk a u1 = some r) : ∃ N, ∀ n, N ≤ n → ∀ g0_ g1_, dfn cfg n 198 [(.str a), (.ptr (.arg 0) g0_ 0 0)] [.rows g0_ false false 1 [[(.ptr (.arg 1) g1_ 0 0)]], .rows g1_ false true 1 [zac u1]] = some ⟨(.bool r.1), [.rows g0_ false false 1 [[(.ptr (.arg 1) g1_ 0 0)]], .rows g1_ false true 1 [zac r.2]], []⟩ := by
 unfold zc6 at h
 have E := evT
 obtain ⟨_, h1_, h⟩ := zaa h
 have h1_ := zah h1_
 try simp -dsimp -implicitDefEqProofs only [go_sem, simprocAttr] at h1_
 have E := E.and (zaq u1 (a ++ [32]))
 obtain rfl := Option.some.inj h
 refine E.s fun n x g0_ g1_ => ?_
 simp -dsimp -implicitDefEqProofs only [go_sem, func198, f198, *, simprocAttr] <;> simp -dsimp -implicitDefEqProofs only [go_sem, func198, f198, ze7, *, simprocAttr]
def zaK (c1 : Sl Str) (c2 : Int) (g0_ : Nat) (g1_ : Nat) (K : Ex → St → Option Res) (R : Option Res) : Out (Int × zab) (Int × zab) → Prop
 | .ret r => ∀ (e : Env) (m : Mem), e 4 = (.int .i64 r.1) → m (.arg 0) = some (.rows g0_ false false 1 [[(.ptr (.arg 1) g1_ 0 0)]]) → m (.arg 1) = some (.rows g1_ false true 1 [zac r.2]) → K .ret ⟨e, m⟩ = R
 | .done q => ∀ (e : Env) (m : Mem), m (.arg 0) = some (.rows g0_ false false 1 [[(.ptr (.arg 1) g1_ 0 0)]]) → m (.arg 1) = some (.rows g1_ false true 1 [zac q.2]) → K (.exit 0) ⟨e, m⟩ = R
noncomputable def zdR : Code := zb4 f195 [1, 0, 1, 0, 0]
theorem zb0 {c1 : Sl Str} {c2 : Int} {kk : Nat} : ∀ {k : Nat} {s3 : Int} {s4 : zab} {out : Out (Int × zab) (Int × zab)}, zax c1 c2 kk k s3 s4 = some out → ∃ N, ∀ n, N ≤ n → ∀ k, N ≤ k → ∀ g0_ g1_, ∀ (e : Env) (m : Mem), e 0 = (dSl zpm c1) → e 1 = (.fn (.func 198) [] [(.ptr (.arg 0) g0_ 0 0)]) → e 7 = (.int .i64 c2) → e 8 = (.int .i64 s3) → m (.arg 0) = some (.rows g0_ false false 1 [[(.ptr (.arg 1) g1_ 0 0)]]) → m (.arg 1) = some (.rows g1_ false true 1 [zac s4]) → ∀ (K : Ex → St → Option Res) (R : Option Res), zaK c1 c2 g0_ g1_ K R out → zc0 (zbX cfg (dfn cfg n) n zdR) K k ⟨e, m⟩ = R := by
 intro k
 induction k with
 | zero => intro s3 s4 out h; cases h
 | succ k ih => ?_
 intro s3 s4 out h
 have ih := fun x0 x1 {out} => @ih x0 x1 out
 unfold zax at h
 have E := evT
 rcases zae h with ⟨h1_, h⟩ | ⟨h1_, h⟩
 obtain ⟨y5, h2_, h⟩ := zaa h
 obtain ⟨_, h3_⟩ := zbK h2_
 have h3_ := zbs h3_ zpm
 obtain ⟨r6, h4_, h⟩ := zaa h
 have E := E.and (zkQ h4_)
 rcases zae h with ⟨h5_, h⟩ | ⟨h5_, h⟩
 rotate_left
 rotate_left
 rotate_left
 all_goals
  first | (obtain rfl := Option.some.inj h; refine E.l fun n k x => ?_) | refine E.c (ih _ _ h) fun n k x I => ?_
  intro g0_ g1_ e m i0 i1 i2 i3 i4 i5 K R hK
  rw [zaB]
  (conv => lhs; arg 4; whnf)
  first | (simp -dsimp -implicitDefEqProofs only [go_sem, *, simprocAttr]; simp only [zaK] at hK; refine hK _ _ ?_ ?_ ?_; (iterate 3 (simp -dsimp -implicitDefEqProofs only [go_sem, *, simprocAttr]))) | (simp -dsimp -implicitDefEqProofs only [go_sem, *, simprocAttr]; refine zai (I.1 g0_ g1_ _ _ ?_ ?_ ?_ ?_ ?_ ?_ _ _ hK); (iterate 6 (simp -dsimp -implicitDefEqProofs only [go_sem, *, simprocAttr]))) | (simp -dsimp -implicitDefEqProofs only [go_sem, *, simprocAttr]; simp only [zaK] at hK; refine hK _ _ ?_ ?_; (iterate 2 (simp -dsimp -implicitDefEqProofs only [go_sem, *, simprocAttr])))
theorem zei {kk : Nat} {a : (Sl Str)} {u1 : zab} {r : Int × zab} (h : zbe kk a u1 = some r) : ∃ N, ∀ n, N ≤ n → ∀ g0_ g1_, dfn cfg n 195 [(dSl zpm a), (.fn (.func 198) [] [(.ptr (.arg 0) g0_ 0 0)])] [.rows g0_ false false 1 [[(.ptr (.arg 1) g1_ 0 0)]], .rows g1_ false true 1 [zac u1]] = some ⟨(.int .i64 r.1), [.rows g0_ false false 1 [[(.ptr (.arg 1) g1_ 0 0)]], .rows g1_ false true 1 [zac r.2]], []⟩ := by
 unfold zbe at h
 have E := evT
 rcases zbj h with ⟨r8_, o7_, h⟩ | ⟨q7, o7_, h⟩
 obtain ⟨_, l6_, E⟩ := E.lp (zb0 o7_)
 rotate_left
 obtain ⟨_, l9_, E⟩ := E.lp (zb0 o7_)
 rotate_left
 all_goals
  obtain rfl := Option.some.inj h
  refine E.s fun n x g0_ g1_ => ?_
  first | (have := l6_; simp -dsimp -implicitDefEqProofs only [go_sem, func195, f195, *, simprocAttr]; refine zai (l6_.1 n (by omega) g0_ g1_ _ _ ?_ ?_ ?_ ?_ ?_ ?_ _ _ ?_); (iterate 6 (simp -dsimp -implicitDefEqProofs only [go_sem, *, simprocAttr])); simp only [zaK]; intro e m i0 i1 i2; simp -dsimp -implicitDefEqProofs only [go_sem, func195, f195, *, simprocAttr] <;> simp -dsimp -implicitDefEqProofs only [go_sem, func195, f195, ze7, *, simprocAttr]) | (have := l9_; simp -dsimp -implicitDefEqProofs only [go_sem, func195, f195, *, simprocAttr]; refine zai (l9_.1 n (by omega) g0_ g1_ _ _ ?_ ?_ ?_ ?_ ?_ ?_ _ _ ?_); (iterate 6 (simp -dsimp -implicitDefEqProofs only [go_sem, *, simprocAttr])); simp only [zaK]; intro e m i0 i1; simp -dsimp -implicitDefEqProofs only [go_sem, func195, f195, *, simprocAttr] <;> simp -dsimp -implicitDefEqProofs only [go_sem, func195, f195, ze7, *, simprocAttr])
theorem zev (a : (Sl Str)) (u1 : zab) (h : zrW a) : ∃ N, ∀ n, N ≤ n → ∀ g0_ g1_, dfn cfg n 195 [(dSl zpm a), (.fn (.func 196) [] [(.ptr (.arg 0) g0_ 0 0)])] [.rows g0_ false false 1 [[(.ptr (.arg 1) g1_ 0 0)]], .rows g1_ false true 1 [zac u1]] = some ⟨(.int .i64 ((zyO a u1).1)), [.rows g0_ false false 1 [[(.ptr (.arg 1) g1_ 0 0)]], .rows g1_ false true 1 [zac ((zyO a u1).2)]], []⟩ := zej (zdN (kk := big) a u1 h)
theorem zeu (a : (Sl Str)) (u1 : zab) (h : zrW a) : ∃ N, ∀ n, N ≤ n → ∀ g0_ g1_, dfn cfg n 195 [(dSl zpm a), (.fn (.func 198) [] [(.ptr (.arg 0) g0_ 0 0)])] [.rows g0_ false false 1 [[(.ptr (.arg 1) g1_ 0 0)]], .rows g1_ false true 1 [zac u1]] = some ⟨(.int .i64 ((zre a u1).1)), [.rows g0_ false false 1 [[(.ptr (.arg 1) g1_ 0 0)]], .rows g1_ false true 1 [zac ((zre a u1).2)]], []⟩ := zei (zdM (kk := big) a u1 h)
end Go.Proofs.Tryz
set_option maxRecDepth 100000
set_option maxHeartbeats 4000000
set_option linter.unusedSimpArgs false
namespace Go.Proofs.Tryz
open Go.Ev
theorem zCZ {α : Type} {p q : α → Bool} : ∀ {l : List α}, (∀ x ∈ l, q x = true → p x = true) → (∃ x ∈ l, p x = true ∧ q x = false) → (l.filter q).length < (l.filter p).length := by
 intro l
 induction l with
 | nil => rintro _ ⟨x, hx, _⟩; simp at hx
 | cons y l ih =>
   intro h ⟨x, hx, h1, h2⟩
   have hle : (l.filter q).length ≤ (l.filter p).length := by
    clear ih hx
    induction l with
    | nil => simp
    | cons z l ih2 =>
      have := ih2 (fun x hx => h x (by rcases List.mem_cons.1 hx with rfl | hx <;> simp [*]))
      have hz := h z (by simp)
      simp only [List.filter_cons]
      cases hq : q z
      · cases hp : p z <;> simp <;> omega
      · simp [hz hq]; exact this
   simp only [List.filter_cons]
   rcases List.mem_cons.1 hx with rfl | hx
   · simp [h1, h2]; omega
   · have := ih (fun x hx => h x (by simp [hx])) ⟨x, hx, h1, h2⟩
     cases hq : q y
     · cases hp : p y <;> simp <;> omega
     · simp [h y (by simp) hq]; exact this
theorem zsV {b : UInt8} {p s : Str} (h : (za3 (b :: p) s).1 = true) : s.head? = some b := by
 have := zuz (p := b :: p) (s := s) (r := (za3 (b :: p) s).2) (by rw [← h])
 rw [this]; rfl
theorem zGB {s : Str} (h : (za3 zfE s).1 = true) : zjr s = (1, (za3 zfE s).2) := by unfold zjr; rw [if_pos h]
theorem zGA {s : Str} (h : (za3 zfP s).1 = true) : zjr s = (2, (za3 zfP s).2) := by
 have e := zsV h
 unfold zjr
 rw [show za3 zfE s = (false, s) from zow _ s 109 (by rw [e]; decide), if_neg (by simp), if_pos h]
theorem zGz {s : Str} (h : (za3 zd5 s).1 = true) : zjr s = (3, (za3 zd5 s).2) := by
 have e := zsV h
 unfold zjr
 rw [show za3 zfE s = (false, s) from zow _ s 109 (by rw [e]; decide), if_neg (by simp), show za3 zfP s = (false, s) from zow _ s 100 (by rw [e]; decide), if_neg (by simp), if_pos h]
theorem zGy {s : Str} (h : (za3 zjS s).1 = true) : zjr s = (4, (za3 zjS s).2) := by
 have e := zsV h
 unfold zjr
 rw [show za3 zfE s = (false, s) from zow _ s 109 (by rw [e]; decide), if_neg (by simp), show za3 zfP s = (false, s) from zow _ s 100 (by rw [e]; decide), if_neg (by simp), show za3 zd5 s = (false, s) from zow _ s 97 (by rw [e]; decide), if_neg (by simp), if_pos h]
theorem zGC {s : Str} (h1 : (za3 zfE s).1 = false) (h2 : (za3 zfP s).1 = false) (h3 : (za3 zd5 s).1 = false) (h4 : (za3 zjS s).1 = false) : zjr s = (0, s) := by
 unfold zjr
 rw [h1, h2, h3, h4]; rfl
theorem zvD {p : zab} {w : Str} (h : (za3 w p.rest).1 = false) : zaG p w = (false, p) := by
 unfold zaG
 rw [h, zpt (r := (za3 w p.rest).2) (by rw [← h])]
noncomputable def BHL : Code := zb4 f147 [1, 1, 0, 1, 0, 0]
def zfk : List Ent := [⟨.int .i64 1, .str zfE, 0⟩, ⟨.int .i64 2, .str zfP, 1⟩, ⟨.int .i64 3, .str zd5, 2⟩, ⟨.int .i64 4, .str zjS, 3⟩]
theorem zI2 : (zfk.all fun e => decide (e.born ≥ 4)) = false := rfl
theorem zf1 : (zfk.find? fun e => e.born == 0) = some ⟨.int .i64 1, .str zfE, 0⟩ := rfl
theorem zf0 : (zfk.find? fun e => e.born == 1) = some ⟨.int .i64 2, .str zfP, 1⟩ := rfl
theorem zfZ : (zfk.find? fun e => e.born == 2) = some ⟨.int .i64 3, .str zd5, 2⟩ := rfl
theorem zfY : (zfk.find? fun e => e.born == 3) = some ⟨.int .i64 4, .str zjS, 3⟩ := rfl
def zFv (n : Nat) (c2 : zab) (w : Str) : Prop := ∀ g0_, dfn cfg n 106 [(.ptr (.arg 0) g0_ 0 0), (.str w)] [.rows g0_ false true 1 [zac c2]] = some ⟨(.bool ((zaG c2 w).1)), [.rows g0_ false true 1 [zac ((zaG c2 w).2)]], []⟩
theorem zAY (c1 : Int) (c2 : zab) (c3 c4 : zap) (n : Nat) (g0_ : Nat) (gi gm : Nat) (K : Ex → St → Option Res) (R : Option Res)
 (t0 : zFv n c2 zfE) (t1 : zFv n c2 zfP) (t2 : zFv n c2 zd5) (t3 : zFv n c2 zjS)
 (hK : ∀ (x : Int) (w : zab), znZ c2 c4 = some (w, x) → ∀ (e : Env) (m : Mem), e 0 = .ptr (.arg 0) g0_ 0 0 → e 1 = (.int .i64 c1) → zcS (e 4) m 4 10 (zcB c3) → zcS (e 6) m 6 10 (zcB (c4.setKind x)) → m (.arg 0) = some (.rows g0_ false true 1 [zac w]) → K (.exit 0) ⟨e, m⟩ = R) :
 ∀ (j : Nat) (seen : List Nat), (zfk.filter fun e => !seen.contains e.born).length < j →
  (∀ e ∈ zfk, seen.contains e.born = true → ∀ w, e.val = .str w → (za3 w c2.rest).1 = false) →
  ∀ (k : Nat) (_ : j ≤ k) (e : Env) (m : Mem), e 0 = .ptr (.arg 0) g0_ 0 0 → e 1 = (.int .i64 c1) → zcS (e 4) m 4 10 (zcB c3) → zcS (e 6) m 6 10 (zcB c4) → m (.arg 0) = some (.rows g0_ false true 1 [zac c2]) →
  e 18 = .iter (.loc 18 0) gi → m (.loc 18 0) = some (.miter gi (some (.loc 16 0, gm)) 4 seen 4) → m (.loc 16 0) = some (.map gm true zfk 4) →
  zc0 (zbX cfg (dfn cfg n) n BHL) K k ⟨e, m⟩ = R := by
 intro j
 induction j with
 | zero => intro seen h; omega
 | succ j ih =>
   intro seen hj hseen k hk e m i0 i1 i2 i3 i4 i5 i6 i7
   obtain ⟨k, rfl⟩ : ∃ q, k = q + 1 := ⟨k - 1, by omega⟩
   obtain ⟨_, f1, f2⟩ := i2
   obtain ⟨_, f3, f4⟩ := i3
   rw [zaB]
   conv => lhs; arg 4; whnf
   simp -dsimp -implicitDefEqProofs only [go_sem, i0, i1, f1, f2, f3, f4, i4, i5, i6, i7, zI2, simprocAttr]
   refine zBH ?_ ?_
   · intro hn
     rw [List.append_eq_nil_iff, List.append_eq_nil_iff] at hn
     obtain ⟨h1, h2, _⟩ := hn
     rw [List.map_eq_nil_iff] at h2
     rw [h2] at h1; simp at h1
   intro r hr
   have hr2 : (r = (D.tup [D.bool false], []) ∧ ∀ x ∈ zfk, seen.contains x.born = true) ∨ ∃ x ∈ zfk, seen.contains x.born = false ∧ r = (D.tup [D.bool true, x.key, x.val], [(Nm.loc 18 0, Blk.miter gi (some (Nm.loc 16 0, gm)) 4 (seen ++ [x.born]) 4)]) := by
    rcases List.mem_append.1 hr with h | h
    · split at h
      · rename_i hn
        left
        refine ⟨by simpa using h, fun x hx => ?_⟩
        cases hs : seen.contains x.born with
        | true => rfl
        | false =>
          have hm : x ∈ (zfk.filter fun e => !seen.contains e.born).filter (fun e => decide (e.born < 4)) := by
           rw [List.mem_filter, List.mem_filter]
           refine ⟨⟨hx, by rw [hs]; rfl⟩, ?_⟩
           simp only [zfk, List.mem_cons, List.not_mem_nil, or_false] at hx
           rcases hx with rfl | rfl | rfl | rfl <;> rfl
          rw [List.isEmpty_iff] at hn
          rw [hn] at hm; simp at hm
      · simp at h
    · right
      rcases List.mem_append.1 h with h | h
      · obtain ⟨x, hx, rfl⟩ := List.mem_map.1 h
        have h3 := (List.mem_filter.1 (List.mem_filter.1 hx).1)
        exact ⟨x, h3.1, by simpa using h3.2, rfl⟩
      · obtain ⟨x, hx, rfl⟩ := List.mem_map.1 h
        have h3 := (List.mem_filter.1 (List.mem_filter.1 hx).1)
        exact ⟨x, h3.1, by simpa using h3.2, rfl⟩
   have hlt : ∀ x ∈ zfk, seen.contains x.born = false → (zfk.filter fun e => !(seen ++ [x.born]).contains e.born).length < j := by
    intro x hx hs
    have : (zfk.filter fun e => !(seen ++ [x.born]).contains e.born).length < (zfk.filter fun e => !seen.contains e.born).length := by
     refine zCZ (fun y _ hy => ?_) ⟨x, hx, by rw [hs]; rfl, by simp⟩
     simp only [Bool.not_eq_true', List.contains_eq_mem, List.mem_append, decide_eq_false_iff_not, not_or] at hy ⊢
     exact hy.1
    omega
   have hse : ∀ x ∈ zfk, (∀ w, x.val = .str w → (za3 w c2.rest).1 = false) → ∀ y ∈ zfk, (seen ++ [x.born]).contains y.born = true → ∀ w, y.val = .str w → (za3 w c2.rest).1 = false := by
    intro x hx h1 y hy hc w hw
    simp only [List.contains_eq_mem, List.mem_append, decide_eq_true_eq, List.mem_singleton] at hc
    rcases hc with hc | hc
    · exact hseen y hy (by simpa using hc) w hw
    · have e : y = x := by
       simp only [zfk, List.mem_cons, List.not_mem_nil, or_false] at hx hy
       rcases hx with rfl | rfl | rfl | rfl <;> rcases hy with rfl | rfl | rfl | rfl <;> first | rfl | (exact absurd hc (by decide))
      subst e; exact h1 w hw
   clear hr
   rcases hr2 with ⟨rfl, hall⟩ | ⟨x, hx, hs, rfl⟩
   · simp -dsimp -implicitDefEqProofs only [go_sem, i0, i1, f1, f2, f3, f4, i4, i5, i6, i7, simprocAttr]
     have b0 := hseen _ (by simp [zfk]) (hall ⟨.int .i64 1, .str zfE, 0⟩ (by simp [zfk])) _ rfl
     have b1 := hseen _ (by simp [zfk]) (hall ⟨.int .i64 2, .str zfP, 1⟩ (by simp [zfk])) _ rfl
     have b2 := hseen _ (by simp [zfk]) (hall ⟨.int .i64 3, .str zd5, 2⟩ (by simp [zfk])) _ rfl
     have b3 := hseen _ (by simp [zfk]) (hall ⟨.int .i64 4, .str zjS, 3⟩ (by simp [zfk])) _ rfl
     refine hK c4.kind c2 (by unfold znZ; rw [zGC b0 b1 b2 b3]; rfl) _ _ ?_ ?_ ?_ ?_ ?_
     · simp -dsimp -implicitDefEqProofs only [go_sem, i0, i1, f1, f2, f3, f4, i4, i5, i6, i7, simprocAttr]
     · simp -dsimp -implicitDefEqProofs only [go_sem, i0, i1, f1, f2, f3, f4, i4, i5, i6, i7, simprocAttr]
     · simp -dsimp -implicitDefEqProofs only [go_sem, zcS, i0, i1, f1, f2, f3, f4, i4, i5, i6, i7, simprocAttr]; exact ⟨_, rfl, rfl⟩
     · simp -dsimp -implicitDefEqProofs only [go_sem, zcS, i0, i1, f1, f2, f3, f4, i4, i5, i6, i7, simprocAttr]; exact ⟨_, rfl, rfl⟩
     · simp -dsimp -implicitDefEqProofs only [go_sem, i0, i1, f1, f2, f3, f4, i4, i5, i6, i7, simprocAttr]
   · have hl := hlt x hx hs
     have hs2 := hse x hx
     simp only [zfk, List.mem_cons, List.not_mem_nil, or_false] at hx
     rcases hx with rfl | rfl | rfl | rfl
     · have tt : ∀ g0_, dfn cfg n 106 [(.ptr (.arg 0) g0_ 0 0), (.str zfE)] [.rows g0_ false true 1 [zac c2]] = some ⟨(.bool ((zaG c2 zfE).1)), [.rows g0_ false true 1 [zac ((zaG c2 zfE).2)]], []⟩ := t0
       cases hb : (za3 zfE c2.rest).1 with
       | true =>
         have hb : (zaG c2 zfE).1 = true := hb
         simp -dsimp -implicitDefEqProofs only [go_sem, i0, i1, f1, f2, f3, f4, i4, i5, i6, i7, tt, hb, zf1, List.getLast?_append, List.getLast?_singleton, Option.some_or, Option.or_some, simprocAttr]
         refine hK 1 (zaG c2 zfE).2 (by unfold znZ; rw [zGB hb]; rfl) _ _ ?_ ?_ ?_ ?_ ?_
         · simp -dsimp -implicitDefEqProofs only [go_sem, i0, i1, f1, f2, f3, f4, i4, i5, i6, i7, tt, hb, zf1, List.getLast?_append, List.getLast?_singleton, Option.some_or, Option.or_some, simprocAttr]
         · simp -dsimp -implicitDefEqProofs only [go_sem, i0, i1, f1, f2, f3, f4, i4, i5, i6, i7, tt, hb, zf1, List.getLast?_append, List.getLast?_singleton, Option.some_or, Option.or_some, simprocAttr]
         · simp -dsimp -implicitDefEqProofs only [go_sem, zcS, i0, i1, f1, f2, f3, f4, i4, i5, i6, i7, tt, hb, zf1, List.getLast?_append, List.getLast?_singleton, Option.some_or, Option.or_some, simprocAttr]; exact ⟨_, rfl, rfl⟩
         · simp -dsimp -implicitDefEqProofs only [go_sem, zcS, i0, i1, f1, f2, f3, f4, i4, i5, i6, i7, tt, hb, zf1, List.getLast?_append, List.getLast?_singleton, Option.some_or, Option.or_some, simprocAttr]; exact ⟨_, rfl, rfl⟩
         · simp -dsimp -implicitDefEqProofs only [go_sem, i0, i1, f1, f2, f3, f4, i4, i5, i6, i7, tt, hb, zf1, List.getLast?_append, List.getLast?_singleton, Option.some_or, Option.or_some, simprocAttr]
       | false =>
         have hs2 := hs2 (fun w hw => by cases hw; exact hb)
         have hb := zvD hb
         simp -dsimp -implicitDefEqProofs only [go_sem, i0, i1, f1, f2, f3, f4, i4, i5, i6, i7, tt, hb, zf1, List.getLast?_append, List.getLast?_singleton, Option.some_or, Option.or_some, simprocAttr]
         refine zai (ih _ hl hs2 k (by omega) _ _ ?_ ?_ ?_ ?_ ?_ ?_ ?_ ?_)
         · simp -dsimp -implicitDefEqProofs only [go_sem, i0, i1, f1, f2, f3, f4, i4, i5, i6, i7, tt, hb, zf1, List.getLast?_append, List.getLast?_singleton, Option.some_or, Option.or_some, simprocAttr]
         · simp -dsimp -implicitDefEqProofs only [go_sem, i0, i1, f1, f2, f3, f4, i4, i5, i6, i7, tt, hb, zf1, List.getLast?_append, List.getLast?_singleton, Option.some_or, Option.or_some, simprocAttr]
         · simp -dsimp -implicitDefEqProofs only [go_sem, zcS, i0, i1, f1, f2, f3, f4, i4, i5, i6, i7, tt, hb, zf1, List.getLast?_append, List.getLast?_singleton, Option.some_or, Option.or_some, simprocAttr]; exact ⟨_, rfl, rfl⟩
         · simp -dsimp -implicitDefEqProofs only [go_sem, zcS, i0, i1, f1, f2, f3, f4, i4, i5, i6, i7, tt, hb, zf1, List.getLast?_append, List.getLast?_singleton, Option.some_or, Option.or_some, simprocAttr]; exact ⟨_, rfl, rfl⟩
         · simp -dsimp -implicitDefEqProofs only [go_sem, i0, i1, f1, f2, f3, f4, i4, i5, i6, i7, tt, hb, zf1, List.getLast?_append, List.getLast?_singleton, Option.some_or, Option.or_some, simprocAttr]
         · simp -dsimp -implicitDefEqProofs only [go_sem, i0, i1, f1, f2, f3, f4, i4, i5, i6, i7, tt, hb, zf1, List.getLast?_append, List.getLast?_singleton, Option.some_or, Option.or_some, simprocAttr]
         · simp -dsimp -implicitDefEqProofs only [go_sem, i0, i1, f1, f2, f3, f4, i4, i5, i6, i7, tt, hb, zf1, List.getLast?_append, List.getLast?_singleton, Option.some_or, Option.or_some, simprocAttr]
         · simp -dsimp -implicitDefEqProofs only [go_sem, i0, i1, f1, f2, f3, f4, i4, i5, i6, i7, tt, hb, zf1, List.getLast?_append, List.getLast?_singleton, Option.some_or, Option.or_some, simprocAttr]
     · have tt : ∀ g0_, dfn cfg n 106 [(.ptr (.arg 0) g0_ 0 0), (.str zfP)] [.rows g0_ false true 1 [zac c2]] = some ⟨(.bool ((zaG c2 zfP).1)), [.rows g0_ false true 1 [zac ((zaG c2 zfP).2)]], []⟩ := t1
       cases hb : (za3 zfP c2.rest).1 with
       | true =>
         have hb : (zaG c2 zfP).1 = true := hb
         simp -dsimp -implicitDefEqProofs only [go_sem, i0, i1, f1, f2, f3, f4, i4, i5, i6, i7, tt, hb, zf0, List.getLast?_append, List.getLast?_singleton, Option.some_or, Option.or_some, simprocAttr]
         refine hK 2 (zaG c2 zfP).2 (by unfold znZ; rw [zGA hb]; rfl) _ _ ?_ ?_ ?_ ?_ ?_
         · simp -dsimp -implicitDefEqProofs only [go_sem, i0, i1, f1, f2, f3, f4, i4, i5, i6, i7, tt, hb, zf0, List.getLast?_append, List.getLast?_singleton, Option.some_or, Option.or_some, simprocAttr]
         · simp -dsimp -implicitDefEqProofs only [go_sem, i0, i1, f1, f2, f3, f4, i4, i5, i6, i7, tt, hb, zf0, List.getLast?_append, List.getLast?_singleton, Option.some_or, Option.or_some, simprocAttr]
         · simp -dsimp -implicitDefEqProofs only [go_sem, zcS, i0, i1, f1, f2, f3, f4, i4, i5, i6, i7, tt, hb, zf0, List.getLast?_append, List.getLast?_singleton, Option.some_or, Option.or_some, simprocAttr]; exact ⟨_, rfl, rfl⟩
         · simp -dsimp -implicitDefEqProofs only [go_sem, zcS, i0, i1, f1, f2, f3, f4, i4, i5, i6, i7, tt, hb, zf0, List.getLast?_append, List.getLast?_singleton, Option.some_or, Option.or_some, simprocAttr]; exact ⟨_, rfl, rfl⟩
         · simp -dsimp -implicitDefEqProofs only [go_sem, i0, i1, f1, f2, f3, f4, i4, i5, i6, i7, tt, hb, zf0, List.getLast?_append, List.getLast?_singleton, Option.some_or, Option.or_some, simprocAttr]
       | false =>
         have hs2 := hs2 (fun w hw => by cases hw; exact hb)
         have hb := zvD hb
         simp -dsimp -implicitDefEqProofs only [go_sem, i0, i1, f1, f2, f3, f4, i4, i5, i6, i7, tt, hb, zf0, List.getLast?_append, List.getLast?_singleton, Option.some_or, Option.or_some, simprocAttr]
         refine zai (ih _ hl hs2 k (by omega) _ _ ?_ ?_ ?_ ?_ ?_ ?_ ?_ ?_)
         · simp -dsimp -implicitDefEqProofs only [go_sem, i0, i1, f1, f2, f3, f4, i4, i5, i6, i7, tt, hb, zf0, List.getLast?_append, List.getLast?_singleton, Option.some_or, Option.or_some, simprocAttr]
         · simp -dsimp -implicitDefEqProofs only [go_sem, i0, i1, f1, f2, f3, f4, i4, i5, i6, i7, tt, hb, zf0, List.getLast?_append, List.getLast?_singleton, Option.some_or, Option.or_some, simprocAttr]
         · simp -dsimp -implicitDefEqProofs only [go_sem, zcS, i0, i1, f1, f2, f3, f4, i4, i5, i6, i7, tt, hb, zf0, List.getLast?_append, List.getLast?_singleton, Option.some_or, Option.or_some, simprocAttr]; exact ⟨_, rfl, rfl⟩
         · simp -dsimp -implicitDefEqProofs only [go_sem, zcS, i0, i1, f1, f2, f3, f4, i4, i5, i6, i7, tt, hb, zf0, List.getLast?_append, List.getLast?_singleton, Option.some_or, Option.or_some, simprocAttr]; exact ⟨_, rfl, rfl⟩
         · simp -dsimp -implicitDefEqProofs only [go_sem, i0, i1, f1, f2, f3, f4, i4, i5, i6, i7, tt, hb, zf0, List.getLast?_append, List.getLast?_singleton, Option.some_or, Option.or_some, simprocAttr]
         · simp -dsimp -implicitDefEqProofs only [go_sem, i0, i1, f1, f2, f3, f4, i4, i5, i6, i7, tt, hb, zf0, List.getLast?_append, List.getLast?_singleton, Option.some_or, Option.or_some, simprocAttr]
         · simp -dsimp -implicitDefEqProofs only [go_sem, i0, i1, f1, f2, f3, f4, i4, i5, i6, i7, tt, hb, zf0, List.getLast?_append, List.getLast?_singleton, Option.some_or, Option.or_some, simprocAttr]
         · simp -dsimp -implicitDefEqProofs only [go_sem, i0, i1, f1, f2, f3, f4, i4, i5, i6, i7, tt, hb, zf0, List.getLast?_append, List.getLast?_singleton, Option.some_or, Option.or_some, simprocAttr]
     · have tt : ∀ g0_, dfn cfg n 106 [(.ptr (.arg 0) g0_ 0 0), (.str zd5)] [.rows g0_ false true 1 [zac c2]] = some ⟨(.bool ((zaG c2 zd5).1)), [.rows g0_ false true 1 [zac ((zaG c2 zd5).2)]], []⟩ := t2
       cases hb : (za3 zd5 c2.rest).1 with
       | true =>
         have hb : (zaG c2 zd5).1 = true := hb
         simp -dsimp -implicitDefEqProofs only [go_sem, i0, i1, f1, f2, f3, f4, i4, i5, i6, i7, tt, hb, zfZ, List.getLast?_append, List.getLast?_singleton, Option.some_or, Option.or_some, simprocAttr]
         refine hK 3 (zaG c2 zd5).2 (by unfold znZ; rw [zGz hb]; rfl) _ _ ?_ ?_ ?_ ?_ ?_
         · simp -dsimp -implicitDefEqProofs only [go_sem, i0, i1, f1, f2, f3, f4, i4, i5, i6, i7, tt, hb, zfZ, List.getLast?_append, List.getLast?_singleton, Option.some_or, Option.or_some, simprocAttr]
         · simp -dsimp -implicitDefEqProofs only [go_sem, i0, i1, f1, f2, f3, f4, i4, i5, i6, i7, tt, hb, zfZ, List.getLast?_append, List.getLast?_singleton, Option.some_or, Option.or_some, simprocAttr]
         · simp -dsimp -implicitDefEqProofs only [go_sem, zcS, i0, i1, f1, f2, f3, f4, i4, i5, i6, i7, tt, hb, zfZ, List.getLast?_append, List.getLast?_singleton, Option.some_or, Option.or_some, simprocAttr]; exact ⟨_, rfl, rfl⟩
         · simp -dsimp -implicitDefEqProofs only [go_sem, zcS, i0, i1, f1, f2, f3, f4, i4, i5, i6, i7, tt, hb, zfZ, List.getLast?_append, List.getLast?_singleton, Option.some_or, Option.or_some, simprocAttr]; exact ⟨_, rfl, rfl⟩
         · simp -dsimp -implicitDefEqProofs only [go_sem, i0, i1, f1, f2, f3, f4, i4, i5, i6, i7, tt, hb, zfZ, List.getLast?_append, List.getLast?_singleton, Option.some_or, Option.or_some, simprocAttr]
       | false =>
         have hs2 := hs2 (fun w hw => by cases hw; exact hb)
         have hb := zvD hb
         simp -dsimp -implicitDefEqProofs only [go_sem, i0, i1, f1, f2, f3, f4, i4, i5, i6, i7, tt, hb, zfZ, List.getLast?_append, List.getLast?_singleton, Option.some_or, Option.or_some, simprocAttr]
         refine zai (ih _ hl hs2 k (by omega) _ _ ?_ ?_ ?_ ?_ ?_ ?_ ?_ ?_)
         · simp -dsimp -implicitDefEqProofs only [go_sem, i0, i1, f1, f2, f3, f4, i4, i5, i6, i7, tt, hb, zfZ, List.getLast?_append, List.getLast?_singleton, Option.some_or, Option.or_some, simprocAttr]
         · simp -dsimp -implicitDefEqProofs only [go_sem, i0, i1, f1, f2, f3, f4, i4, i5, i6, i7, tt, hb, zfZ, List.getLast?_append, List.getLast?_singleton, Option.some_or, Option.or_some, simprocAttr]
         · simp -dsimp -implicitDefEqProofs only [go_sem, zcS, i0, i1, f1, f2, f3, f4, i4, i5, i6, i7, tt, hb, zfZ, List.getLast?_append, List.getLast?_singleton, Option.some_or, Option.or_some, simprocAttr]; exact ⟨_, rfl, rfl⟩
         · simp -dsimp -implicitDefEqProofs only [go_sem, zcS, i0, i1, f1, f2, f3, f4, i4, i5, i6, i7, tt, hb, zfZ, List.getLast?_append, List.getLast?_singleton, Option.some_or, Option.or_some, simprocAttr]; exact ⟨_, rfl, rfl⟩
         · simp -dsimp -implicitDefEqProofs only [go_sem, i0, i1, f1, f2, f3, f4, i4, i5, i6, i7, tt, hb, zfZ, List.getLast?_append, List.getLast?_singleton, Option.some_or, Option.or_some, simprocAttr]
         · simp -dsimp -implicitDefEqProofs only [go_sem, i0, i1, f1, f2, f3, f4, i4, i5, i6, i7, tt, hb, zfZ, List.getLast?_append, List.getLast?_singleton, Option.some_or, Option.or_some, simprocAttr]
         · simp -dsimp -implicitDefEqProofs only [go_sem, i0, i1, f1, f2, f3, f4, i4, i5, i6, i7, tt, hb, zfZ, List.getLast?_append, List.getLast?_singleton, Option.some_or, Option.or_some, simprocAttr]
         · simp -dsimp -implicitDefEqProofs only [go_sem, i0, i1, f1, f2, f3, f4, i4, i5, i6, i7, tt, hb, zfZ, List.getLast?_append, List.getLast?_singleton, Option.some_or, Option.or_some, simprocAttr]
     · have tt : ∀ g0_, dfn cfg n 106 [(.ptr (.arg 0) g0_ 0 0), (.str zjS)] [.rows g0_ false true 1 [zac c2]] = some ⟨(.bool ((zaG c2 zjS).1)), [.rows g0_ false true 1 [zac ((zaG c2 zjS).2)]], []⟩ := t3
       cases hb : (za3 zjS c2.rest).1 with
       | true =>
         have hb : (zaG c2 zjS).1 = true := hb
         simp -dsimp -implicitDefEqProofs only [go_sem, i0, i1, f1, f2, f3, f4, i4, i5, i6, i7, tt, hb, zfY, List.getLast?_append, List.getLast?_singleton, Option.some_or, Option.or_some, simprocAttr]
         refine hK 4 (zaG c2 zjS).2 (by unfold znZ; rw [zGy hb]; rfl) _ _ ?_ ?_ ?_ ?_ ?_
         · simp -dsimp -implicitDefEqProofs only [go_sem, i0, i1, f1, f2, f3, f4, i4, i5, i6, i7, tt, hb, zfY, List.getLast?_append, List.getLast?_singleton, Option.some_or, Option.or_some, simprocAttr]
         · simp -dsimp -implicitDefEqProofs only [go_sem, i0, i1, f1, f2, f3, f4, i4, i5, i6, i7, tt, hb, zfY, List.getLast?_append, List.getLast?_singleton, Option.some_or, Option.or_some, simprocAttr]
         · simp -dsimp -implicitDefEqProofs only [go_sem, zcS, i0, i1, f1, f2, f3, f4, i4, i5, i6, i7, tt, hb, zfY, List.getLast?_append, List.getLast?_singleton, Option.some_or, Option.or_some, simprocAttr]; exact ⟨_, rfl, rfl⟩
         · simp -dsimp -implicitDefEqProofs only [go_sem, zcS, i0, i1, f1, f2, f3, f4, i4, i5, i6, i7, tt, hb, zfY, List.getLast?_append, List.getLast?_singleton, Option.some_or, Option.or_some, simprocAttr]; exact ⟨_, rfl, rfl⟩
         · simp -dsimp -implicitDefEqProofs only [go_sem, i0, i1, f1, f2, f3, f4, i4, i5, i6, i7, tt, hb, zfY, List.getLast?_append, List.getLast?_singleton, Option.some_or, Option.or_some, simprocAttr]
       | false =>
         have hs2 := hs2 (fun w hw => by cases hw; exact hb)
         have hb := zvD hb
         simp -dsimp -implicitDefEqProofs only [go_sem, i0, i1, f1, f2, f3, f4, i4, i5, i6, i7, tt, hb, zfY, List.getLast?_append, List.getLast?_singleton, Option.some_or, Option.or_some, simprocAttr]
         refine zai (ih _ hl hs2 k (by omega) _ _ ?_ ?_ ?_ ?_ ?_ ?_ ?_ ?_)
         · simp -dsimp -implicitDefEqProofs only [go_sem, i0, i1, f1, f2, f3, f4, i4, i5, i6, i7, tt, hb, zfY, List.getLast?_append, List.getLast?_singleton, Option.some_or, Option.or_some, simprocAttr]
         · simp -dsimp -implicitDefEqProofs only [go_sem, i0, i1, f1, f2, f3, f4, i4, i5, i6, i7, tt, hb, zfY, List.getLast?_append, List.getLast?_singleton, Option.some_or, Option.or_some, simprocAttr]
         · simp -dsimp -implicitDefEqProofs only [go_sem, zcS, i0, i1, f1, f2, f3, f4, i4, i5, i6, i7, tt, hb, zfY, List.getLast?_append, List.getLast?_singleton, Option.some_or, Option.or_some, simprocAttr]; exact ⟨_, rfl, rfl⟩
         · simp -dsimp -implicitDefEqProofs only [go_sem, zcS, i0, i1, f1, f2, f3, f4, i4, i5, i6, i7, tt, hb, zfY, List.getLast?_append, List.getLast?_singleton, Option.some_or, Option.or_some, simprocAttr]; exact ⟨_, rfl, rfl⟩
         · simp -dsimp -implicitDefEqProofs only [go_sem, i0, i1, f1, f2, f3, f4, i4, i5, i6, i7, tt, hb, zfY, List.getLast?_append, List.getLast?_singleton, Option.some_or, Option.or_some, simprocAttr]
         · simp -dsimp -implicitDefEqProofs only [go_sem, i0, i1, f1, f2, f3, f4, i4, i5, i6, i7, tt, hb, zfY, List.getLast?_append, List.getLast?_singleton, Option.some_or, Option.or_some, simprocAttr]
         · simp -dsimp -implicitDefEqProofs only [go_sem, i0, i1, f1, f2, f3, f4, i4, i5, i6, i7, tt, hb, zfY, List.getLast?_append, List.getLast?_singleton, Option.some_or, Option.or_some, simprocAttr]
         · simp -dsimp -implicitDefEqProofs only [go_sem, i0, i1, f1, f2, f3, f4, i4, i5, i6, i7, tt, hb, zfY, List.getLast?_append, List.getLast?_singleton, Option.some_or, Option.or_some, simprocAttr]
end Go.Proofs.Tryz
set_option maxRecDepth 100000
set_option maxHeartbeats 4000000
set_option linter.unusedSimpArgs false
set_option linter.unusedVariables false
namespace Go.Proofs.Tryz
open Go.Ev
def zcP (c1 : Int) (g0_ : Nat) (K : Ex → St → Option Res) (R : Option Res) : Out ((Sl zam) × Bool × zab) (List zam × zab) → Prop
 | .ret r => ∀ (e : Env) (m : Mem), zwq (e 4) m [24] 2 zau r.1 → e 5 = (.bool r.2.1) → m (.arg 0) = some (.rows g0_ false true 1 [zac r.2.2]) → K .ret ⟨e, m⟩ = R
 | .done q => False
noncomputable def zit : Code := zb4 f57 [1, 1, 1, 1, 0, 0]
abbrev zss (sz : Nat) : Prop := (∀ (a : zab) (b : Int), (a.rest.length < lim ∧ -1 ≤ b ∧ b ≤ 8 ∧ 4 * (b + 1).toNat + 3 < sz) → ∃ N, ∀ n, N ≤ n → ∀ g0_, dfn cfg n 57 [(.ptr (.arg 0) g0_ 0 0), (.int .i64 b)] [.rows g0_ false true 1 [zac a]] = some ⟨(.tup [(dSl zau ((zct a b).1)), (.bool ((zct a b).2.1))]), [.rows g0_ false true 1 [zac ((zct a b).2.2)]], []⟩) ∧ (∀ (a : zab) (b : Int), (a.rest.length < lim ∧ 0 ≤ b ∧ b ≤ 8 ∧ 4 * (b + 1).toNat + 2 < sz) → ∃ N, ∀ n, N ≤ n → ∀ g0_, dfn cfg n 107 [(.ptr (.arg 0) g0_ 0 0), (.int .i64 b)] [.rows g0_ false true 1 [zac a]] = some ⟨(.tup [(.agg (zau ((zlb a b).1))), (.bool ((zlb a b).2.1))]), [.rows g0_ false true 1 [zac ((zlb a b).2.2)]], []⟩) ∧ (∀ (a : zab) (b : Int), (a.rest.length < lim ∧ 0 ≤ b ∧ b ≤ 8 ∧ 4 * (b + 1).toNat + 1 < sz) → ∃ N, ∀ n, N ≤ n → ∀ g0_, dfn cfg n 147 [(.ptr (.arg 0) g0_ 0 0), (.int .i64 b)] [.rows g0_ false true 1 [zac a]] = some ⟨(.tup [(.agg (zcB ((zfj a b).1))), (.bool ((zfj a b).2.1))]), [.rows g0_ false true 1 [zac ((zfj a b).2.2)]], []⟩) ∧ (∀ (a : zab) (b : zap) (c : Int), (a.rest.length < lim ∧ b = zap.zero.setKind 4 ∧ 0 ≤ c ∧ c ≤ 8 ∧ 4 * (c + 1).toNat < sz) → ∃ N, ∀ n, N ≤ n → ∃ γ_ : Nat → Nat → Nat, ∀ g0_ g1_,  dfn cfg n 175 [(.ptr (.arg 0) g0_ 0 0), (.ptr (.arg 1) g1_ 0 0), (.int .i64 c)] [.rows g0_ false true 1 [zac a], .rows g1_ false true 10 [zcB (b.setItems Sl.nil)]] = some ⟨(.bool ((zcI a b c).1)), [.rows g0_ false true 1 [zac ((zcI a b c).2.1)], .rows g1_ false (zHE (((zcI a b c).2.2).items.l)) 10 [[(.int .i64 (((zcI a b c).2.2).kind)), (.int .i64 ((((zcI a b c).2.2).row).table)), (.int .i64 ((((zcI a b c).2.2).row).seq)), (dSl (cSl zau) (((zcI a b c).2.2).args)), (.int .i64 (((zcI a b c).2.2).func)), (zE3 (((zcI a b c).2.2).items.l) (γ_ g0_ g1_)), (.int .i64 (((zcI a b c).2.2).op)), (.int .i64 ((((zcI a b c).2.2).bound).kind)), (.int .i64 ((((zcI a b c).2.2).bound).int)), (.str ((((zcI a b c).2.2).bound).text))]]], zE4 (γ_ g0_ g1_) 4 zao (((zcI a b c).2.2).items.l)⟩)
theorem zic {c1 : Int} {sz : Nat} (hg : zss sz) {kk : Nat} : ∀ {k : Nat} {s2 : List zam} {s3 : zab} {out : Out ((Sl zam) × Bool × zab) (List zam × zab)}, zbx c1 sz kk k s2 s3 = some out → ∃ N, ∀ n, N ≤ n → ∀ k, N ≤ k → ∀ g0_, ∀ (e : Env) (m : Mem), e 0 = .ptr (.arg 0) g0_ 0 0 → e 1 = (.int .i64 c1) → zoU (e 6) m [24] 2 zau s2 → m (.arg 0) = some (.rows g0_ false true 1 [zac s3]) → ∀ (K : Ex → St → Option Res) (R : Option Res), zcP c1 g0_ K R out → zc0 (zbX cfg (dfn cfg n) n zit) K k ⟨e, m⟩ = R := by
 have ⟨_, hT, _, _⟩ := hg
 intro k
 induction k with
 | zero => intro s2 s3 out h; cases h
 | succ k ih => ?_
 intro s2 s3 out h
 have ih := fun x0 x1 {out} => @ih x0 x1 out
 unfold zbx at h
 have E := evT
 obtain ⟨_, h1_, h⟩ := zaa h
 have E := E.and (hT s3 c1 (zah h1_))
 rcases zae h with ⟨h2_, h⟩ | ⟨h2_, h⟩
 have b3_ := zar h2_
 rotate_left
 have b4_ := zan h2_
 obtain ⟨_, h5_, h⟩ := zaa h
 have h5_ := zah h5_
 try simp -dsimp -implicitDefEqProofs only [go_sem, simprocAttr] at h5_
 have E := E.and (zaq ((zlb s3 c1).2.2) [32, 43, 32])
 rcases zae h with ⟨h6_, h⟩ | ⟨h6_, h⟩
 have b7_ := zar h6_
 rotate_left
 have b8_ := zan h6_
 rotate_left
 all_goals
  first | (obtain rfl := Option.some.inj h; refine E.l fun n k x => ?_) | refine E.c (ih _ _ h) fun n k x I => ?_
  intro g0_ e m i0 i1 i2 i3 K R hK
  rcases znY i2 with ⟨_, _⟩ | ⟨_, _, _, _⟩ <;> (rw [zaB]; (conv => lhs; arg 4; whnf); (first | (simp -dsimp -implicitDefEqProofs only [go_sem, *, simprocAttr]; simp only [zcP] at hK; refine hK _ _ ?_ ?_ ?_; (iterate 3 (simp -dsimp -implicitDefEqProofs only [go_sem, *, simprocAttr]))) | (simp -dsimp -implicitDefEqProofs only [go_sem, *, simprocAttr]; refine zai (I.1 g0_ _ _ ?_ ?_ ?_ ?_ _ _ hK); (iterate 4 (simp -dsimp -implicitDefEqProofs only [go_sem, *, simprocAttr])))))
theorem zjc {kk : Nat} {a : zab} {b : Int} {sz : Nat} (hg : zss sz) {r : (Sl zam) × Bool × zab} (h : zcx kk sz a b = some r) : ∃ N, ∀ n, N ≤ n → ∀ g0_, dfn cfg n 57 [(.ptr (.arg 0) g0_ 0 0), (.int .i64 b)] [.rows g0_ false true 1 [zac a]] = some ⟨(.tup [(dSl zau r.1), (.bool r.2.1)]), [.rows g0_ false true 1 [zac r.2.2]], []⟩ := by
 unfold zcx at h
 have E := evT
 rcases zae h with ⟨h9_, h⟩ | ⟨h9_, h⟩
 rotate_left
 have E := E.and (zaq a [48])
 rcases zae h with ⟨h10_, h⟩ | ⟨h10_, h⟩
 rotate_left
 rcases zbj h with ⟨r13_, o12_, h⟩ | ⟨q6, o12_, h⟩
 obtain ⟨_, l11_, E⟩ := E.lp (zic hg o12_)
 rotate_left
 cases h
 all_goals
  obtain rfl := Option.some.inj h
  refine E.s fun n x g0_ => ?_
  first | (have := l11_; simp -dsimp -implicitDefEqProofs only [go_sem, func57, f57, *, simprocAttr]; refine zai (l11_.1 n (by omega) g0_ _ _ ?_ ?_ ?_ ?_ _ _ ?_); (iterate 4 (simp -dsimp -implicitDefEqProofs only [go_sem, *, simprocAttr])); simp only [zcP]; intro e m i0 i1 i2; rcases zxa i0 with _ | ⟨lr0, _, _, _, _⟩ <;> (simp -dsimp -implicitDefEqProofs only [go_sem, func57, f57, *, simprocAttr] <;> simp -dsimp -implicitDefEqProofs only [go_sem, func57, f57, ze7, *, simprocAttr])) | (simp -dsimp -implicitDefEqProofs only [go_sem, func57, f57, *, simprocAttr] <;> simp -dsimp -implicitDefEqProofs only [go_sem, func57, f57, ze7, *, simprocAttr])
def zeJ (c14 : Int) (c16 : zam) (g0_ : Nat) (K : Ex → St → Option Res) (R : Option Res) : Out (zam × Bool × zab) (zab × zam × List zaj) → Prop
 | .ret r => ∀ (e : Env) (m : Mem), zAh (e 4) m 4 2 (fun d => [(.int .i64 r.1.coeff), d]) [80] 11 zaP r.1.factors → e 5 = (.bool r.2.1) → m (.arg 0) = some (.rows g0_ false true 1 [zac r.2.2]) → K .ret ⟨e, m⟩ = R
 | .done q => False
noncomputable def zkN : Code := zb4 f107 [1, 1, 1, 0, 0]
theorem zky {c14 : Int} {c16 : zam} {sz : Nat} (hg : zss sz) {kk : Nat} : ∀ {k : Nat} {s15 : zab} {s17 : zam} {s18 : List zaj} {out : Out (zam × Bool × zab) (zab × zam × List zaj)}, zbI c14 c16 sz kk k s15 s17 s18 = some out → ∃ N, ∀ n, N ≤ n → ∀ k, N ≤ k → ∀ g0_, ∀ (e : Env) (m : Mem), e 0 = .ptr (.arg 0) g0_ 0 0 → e 1 = (.int .i64 c14) → zcS (e 4) m 4 2 (zau c16) → zDL (e 6) m 6 2 (fun d => [(.int .i64 s17.coeff), d]) [80] 11 zaP s18 → m (.arg 0) = some (.rows g0_ false true 1 [zac s15]) → ∀ (K : Ex → St → Option Res) (R : Option Res), zeJ c14 c16 g0_ K R out → zc0 (zbX cfg (dfn cfg n) n zkN) K k ⟨e, m⟩ = R := by
 have ⟨_, _, hX, _⟩ := hg
 intro k
 induction k with
 | zero => intro s15 s17 s18 out h; cases h
 | succ k ih => ?_
 intro s15 s17 s18 out h
 have ih := fun x0 x1 x2 {out} => @ih x0 x1 x2 out
 unfold zbI at h
 have E := evT
 obtain ⟨_, h1_, h⟩ := zaa h
 have E := E.and (hX s15 c14 (zah h1_))
 rcases zae h with ⟨h2_, h⟩ | ⟨h2_, h⟩
 have E := E.and (zaq ((zfj s15 c14).2.2) [94])
 rcases zae h with ⟨h3_, h⟩ | ⟨h3_, h⟩
 obtain ⟨_, h4_, h⟩ := zaa h
 have E := E.and (zhn ((zaG ((zfj s15 c14).2.2) [94]).2) (zah h4_))
 rcases zae h with ⟨h5_, h⟩ | ⟨h5_, h⟩
 have b6_ := zar h5_
 rotate_left
 have b7_ := zan h5_
 obtain ⟨_, h8_, h⟩ := zaa h
 have h8_ := zah h8_
 try simp -dsimp -implicitDefEqProofs only [go_sem, simprocAttr] at h8_
 have E := E.and (zaq ((zjq ((zaG ((zfj s15 c14).2.2) [94]).2)).2.2) [42])
 rcases zae h with ⟨h9_, h⟩ | ⟨h9_, h⟩
 have b10_ := zar h9_
 rotate_left
 have b11_ := zan h9_
 rotate_left
 obtain ⟨_, h12_, h⟩ := zaa h
 have h12_ := zah h12_
 try simp -dsimp -implicitDefEqProofs only [go_sem, simprocAttr] at h12_
 have E := E.and (zaq ((zaG ((zfj s15 c14).2.2) [94]).2) [42])
 rcases zae h with ⟨h13_, h⟩ | ⟨h13_, h⟩
 have b14_ := zar h13_
 rotate_left
 have b15_ := zan h13_
 rotate_left
 rotate_left
 all_goals
  first | (obtain rfl := Option.some.inj h; refine E.l fun n k x => ?_) | refine E.c (ih _ _ _ h) fun n k x I => ?_
  intro g0_ e m i0 i1 i2 i3 i4 K R hK
  obtain ⟨_, _, _⟩ := i2
  obtain ⟨_, _, _, _, _, i3⟩ := i3
  rcases znY i3 with ⟨_, _⟩ | ⟨_, _, _, _⟩ <;> (rw [zaB]; (conv => lhs; arg 4; whnf); (first | (simp -dsimp -implicitDefEqProofs only [go_sem, *, simprocAttr]; simp only [zeJ] at hK; refine hK _ _ ?_ ?_ ?_; (iterate 3 (first | (focus (simp -dsimp -implicitDefEqProofs only [go_sem, *, simprocAttr]; done)) | (unfold zAh; simp -dsimp -implicitDefEqProofs only [go_sem, ze7, *, simprocAttr]; refine ⟨_, _, _, rfl, rfl, ?_⟩; simp -dsimp -implicitDefEqProofs only [go_sem, ze7, *, simprocAttr])))) | (simp -dsimp -implicitDefEqProofs only [go_sem, *, simprocAttr]; refine zai (I.1 g0_ _ _ ?_ ?_ ?_ ?_ ?_ _ _ hK); (iterate 5 (first | (focus (simp -dsimp -implicitDefEqProofs only [go_sem, *, simprocAttr]; done)) | (unfold zDL; simp -dsimp -implicitDefEqProofs only [go_sem, ze7, *, simprocAttr]; refine ⟨_, _, _, rfl, rfl, ?_⟩; simp -dsimp -implicitDefEqProofs only [go_sem, ze7, *, simprocAttr]))))))
def zcg (c7 : Int) (c8 : Bool) (c9 : zab) (c10 : zam) (c11 : zam) (g0_ : Nat) (K : Ex → St → Option Res) (R : Option Res) : Out (zam × Bool × zab) (zab × Int) → Prop
 | .ret r => ∀ (e : Env) (m : Mem), zAh (e 4) m 4 2 (fun d => [(.int .i64 r.1.coeff), d]) [80] 11 zaP r.1.factors → e 5 = (.bool r.2.1) → m (.arg 0) = some (.rows g0_ false true 1 [zac r.2.2]) → K .ret ⟨e, m⟩ = R
 | .done q => ∀ (e : Env) (m : Mem), e 0 = .ptr (.arg 0) g0_ 0 0 → e 1 = (.int .i64 c7) → zcS (e 4) m 4 2 (zau c10) → zcS (e 6) m 6 2 (zau (c11.setCoeff q.2)) → m (.arg 0) = some (.rows g0_ false true 1 [zac q.1]) → K .normal ⟨e, m⟩ = R
noncomputable def zgW : Code := zb4 f107 [1, 1, 0, 1]
theorem zgQ {c7 : Int} {c8 : Bool} {c9 : zab} {c10 : zam} {c11 : zam} {sz : Nat} (hg : zss sz) {kk : Nat} {out : Out (zam × Bool × zab) (zab × Int)} (h : zc3 c7 c8 c9 c10 c11 sz kk = some out) : ∃ N, ∀ n, N ≤ n → ∀ g0_, ∀ (e : Env) (m : Mem), e 0 = .ptr (.arg 0) g0_ 0 0 → e 1 = (.int .i64 c7) → zcS (e 4) m 4 2 (zau c10) → zcS (e 6) m 6 2 (zau c11) → e 35 = (.bool (c8)) → m (.arg 0) = some (.rows g0_ false true 1 [zac c9]) → ∀ (K : Ex → St → Option Res) (R : Option Res), zcg c7 c8 c9 c10 c11 g0_ K R out → zbX cfg (dfn cfg n) n zgW K ⟨e, m⟩ = R := by
 unfold zc3 at h
 have E := evT
 rcases zae h with ⟨h16_, h⟩ | ⟨h16_, h⟩
 obtain ⟨_, h17_, h⟩ := zaa h
 have E := E.and (zhn c9 (zah h17_))
 rcases zae h with ⟨h18_, h⟩ | ⟨h18_, h⟩
 have b19_ := zar h18_
 have b20_ := zan b19_
 have E := E.and (zaq ((zjq c9).2.2) [42])
 rcases zae h with ⟨h21_, h⟩ | ⟨h21_, h⟩
 have b22_ := zar h21_
 rotate_left
 have b23_ := zan h21_
 rotate_left
 have b24_ := zan h18_
 have b25_ := zar b24_
 rotate_left
 rotate_left
 all_goals
  obtain rfl := Option.some.inj h
  refine E.j fun n x => ?_
  intro g0_ e m i0 i1 i2 i3 i4 i5 K R hK
  obtain ⟨_, _, _⟩ := i2
  obtain ⟨_, _, _⟩ := i3
  (conv => lhs; arg 4; whnf)
  first | (simp -dsimp -implicitDefEqProofs only [go_sem, *, simprocAttr]; simp only [zcg] at hK; refine hK _ _ ?_ ?_ ?_; (iterate 3 (first | (focus (simp -dsimp -implicitDefEqProofs only [go_sem, *, simprocAttr]; done)) | (unfold zAh; simp -dsimp -implicitDefEqProofs only [go_sem, ze7, *, simprocAttr]; refine ⟨_, _, _, rfl, rfl, ?_⟩; simp -dsimp -implicitDefEqProofs only [go_sem, ze7, *, simprocAttr])))) | (simp -dsimp -implicitDefEqProofs only [go_sem, *, simprocAttr]; simp only [zcg] at hK; refine hK _ _ ?_ ?_ ?_ ?_ ?_; (iterate 5 (simp -dsimp -implicitDefEqProofs only [go_sem, *, simprocAttr])))
def zeK (c1 : Int) (c2 : zab) (c3 : zam) (c4 : zam) (g0_ : Nat) (K : Ex → St → Option Res) (R : Option Res) (q : Bool) : Prop := ∀ (e : Env) (m : Mem), e 0 = .ptr (.arg 0) g0_ 0 0 → e 1 = (.int .i64 c1) → zcS (e 4) m 4 2 (zau c3) → zcS (e 6) m 6 2 (zau c4) → e 35 = (.bool (q)) → m (.arg 0) = some (.rows g0_ false true 1 [zac c2]) → K .normal ⟨e, m⟩ = R
noncomputable def zgX : Code := zb4 f107 [1, 1, 0, 0]
theorem zkz {c1 : Int} {c2 : zab} {c3 : zam} {c4 : zam} {sz : Nat} (hg : zss sz) {kk : Nat} {out : Bool} (h : zcr c1 c2 c3 c4 sz kk = some out) : ∃ N, ∀ n, N ≤ n → ∀ g0_, ∀ (e : Env) (m : Mem), e 0 = .ptr (.arg 0) g0_ 0 0 → e 1 = (.int .i64 c1) → zcS (e 4) m 4 2 (zau c3) → zcS (e 6) m 6 2 (zau c4) → m (.arg 0) = some (.rows g0_ false true 1 [zac c2]) → ∀ (K : Ex → St → Option Res) (R : Option Res), zeK c1 c2 c3 c4 g0_ K R out → zbX cfg (dfn cfg n) n zgX K ⟨e, m⟩ = R := by
 unfold zcr at h
 have E := evT
 rcases zae h with ⟨h26_, h⟩ | ⟨h26_, h⟩
 have b27_ := zar h26_
 obtain ⟨y5, h28_, h⟩ := zaa h
 rcases Bool.eq_false_or_eq_true ((decide (48 ≤ (y5.toNat : Int)))) with h29_ | h29_
 rotate_left
 rotate_left
 have b30_ := zan h26_
 rotate_left
 all_goals
  obtain rfl := Option.some.inj h
  refine E.j fun n x => ?_
  intro g0_ e m i0 i1 i2 i3 i4 K R hK
  obtain ⟨_, _, _⟩ := i2
  obtain ⟨_, _, _⟩ := i3
  (conv => lhs; arg 4; whnf)
  simp -dsimp -implicitDefEqProofs only [go_sem, *, simprocAttr]
  simp only [zeK] at hK
  refine hK _ _ ?_ ?_ ?_ ?_ ?_ ?_
  (iterate 6 (simp -dsimp -implicitDefEqProofs only [go_sem, *, simprocAttr]))
theorem zl8 {kk : Nat} {a : zab} {b : Int} {sz : Nat} (hg : zss sz) {r : zam × Bool × zab} (h : zd2 kk sz a b = some r) : ∃ N, ∀ n, N ≤ n → ∀ g0_, dfn cfg n 107 [(.ptr (.arg 0) g0_ 0 0), (.int .i64 b)] [.rows g0_ false true 1 [zac a]] = some ⟨(.tup [(.agg (zau r.1)), (.bool r.2.1)]), [.rows g0_ false true 1 [zac r.2.2]], []⟩ := by
 unfold zd2 at h
 have E := evT
 obtain ⟨q6, o32_, h⟩ := zaa h
 obtain ⟨_, l31_, E⟩ := E.lj (zkz hg o32_)
 rcases zbj h with ⟨r36_, o35_, h⟩ | ⟨q13, o35_, h⟩
 obtain ⟨_, l34_, E⟩ := E.lj (zgQ hg o35_)
 rotate_left
 obtain ⟨_, l37_, E⟩ := E.lj (zgQ hg o35_)
 rcases zbj h with ⟨r40_, o39_, h⟩ | ⟨q23, o39_, h⟩
 obtain ⟨_, l38_, E⟩ := E.lp (zky hg o39_)
 rotate_left
 cases h
 all_goals
  obtain rfl := Option.some.inj h
  refine E.s fun n x g0_ => ?_
  have j0 := zgq cfg (dfn cfg n) n zgX
  (conv at j0 => intro k s; lhs; arg 4; whnf)
  have j1 := zgq cfg (dfn cfg n) n zgW
  (conv at j1 => intro k s; lhs; arg 4; whnf)
  simp -dsimp -implicitDefEqProofs only [go_sem, ↓j0, ↓j1, func107, f107, *, simprocAttr]
  refine zg5 (l31_.1 n (by omega) g0_ _ _ ?_ ?_ ?_ ?_ ?_ _ _ ?_)
  (iterate 5 (simp -dsimp -implicitDefEqProofs only [go_sem, *, simprocAttr]))
  simp only [zeK]
  intro e m i0 i1 i2 i3 i4 i5
  obtain ⟨_, _, _⟩ := i2
  obtain ⟨_, _, _⟩ := i3
  first | (have := l34_; (try simp -dsimp -implicitDefEqProofs only [go_sem, ↓j0, ↓j1, func107, f107, *, simprocAttr]); refine zg5 (l34_.1 n (by omega) g0_ _ _ ?_ ?_ ?_ ?_ ?_ ?_ _ _ ?_); (iterate 6 (simp -dsimp -implicitDefEqProofs only [go_sem, *, simprocAttr])); simp only [zcg]; intro e m i0 i1 i2; obtain ⟨_, _, _, _, _, i0⟩ := i0; rcases zxa i0 with _ | ⟨lr0, _, _, _, _⟩ <;> (simp -dsimp -implicitDefEqProofs only [go_sem, ↓j0, ↓j1, func107, f107, *, simprocAttr] <;> simp -dsimp -implicitDefEqProofs only [go_sem, ↓j0, ↓j1, func107, f107, ze7, *, simprocAttr])) | (have := l37_; (try simp -dsimp -implicitDefEqProofs only [go_sem, ↓j0, ↓j1, func107, f107, *, simprocAttr]); refine zg5 (l37_.1 n (by omega) g0_ _ _ ?_ ?_ ?_ ?_ ?_ ?_ _ _ ?_); (iterate 6 (simp -dsimp -implicitDefEqProofs only [go_sem, *, simprocAttr])); simp only [zcg]; intro e m i0 i1 i2 i3 i4; obtain ⟨_, _, _⟩ := i2; obtain ⟨_, _, _⟩ := i3; (try simp -dsimp -implicitDefEqProofs only [go_sem, ↓j0, ↓j1, func107, f107, *, simprocAttr]); refine zai (l38_.1 n (by omega) g0_ _ _ ?_ ?_ ?_ ?_ ?_ _ _ ?_); (iterate 5 (first | (focus (simp -dsimp -implicitDefEqProofs only [go_sem, *, simprocAttr]; done)) | (unfold zDL; simp -dsimp -implicitDefEqProofs only [go_sem, ze7, *, simprocAttr]; refine ⟨_, _, _, rfl, rfl, ?_⟩; simp -dsimp -implicitDefEqProofs only [go_sem, ze7, *, simprocAttr]))); simp only [zeJ]; intro e m i0 i1 i2; obtain ⟨_, _, _, _, _, i0⟩ := i0; rcases zxa i0 with _ | ⟨lr0, _, _, _, _⟩ <;> (simp -dsimp -implicitDefEqProofs only [go_sem, ↓j0, ↓j1, func107, f107, *, simprocAttr] <;> simp -dsimp -implicitDefEqProofs only [go_sem, ↓j0, ↓j1, func107, f107, ze7, *, simprocAttr]))
def zeL (c1 : Int) (c2 : zab) (c3 : zap) (c4 : zap) (g0_ : Nat) (K : Ex → St → Option Res) (R : Option Res) (q : zab × Int) : Prop := ∀ (e : Env) (m : Mem), e 0 = .ptr (.arg 0) g0_ 0 0 → e 1 = (.int .i64 c1) → zcS (e 4) m 4 10 (zcB c3) → zcS (e 6) m 6 10 (zcB (c4.setKind q.2)) → m (.arg 0) = some (.rows g0_ false true 1 [zac q.1]) → K .normal ⟨e, m⟩ = R
noncomputable def zgY : Code := zb4 f147 [1, 1, 0]
theorem zkA {c1 : Int} {c2 : zab} {c3 : zap} {c4 : zap} {sz : Nat} (hg : zss sz) {kk : Nat} {out : zab × Int} (h : zc4 c1 c2 c3 c4 sz kk = some out) : ∃ N, ∀ n, N ≤ n → ∀ g0_, ∀ (e : Env) (m : Mem), e 0 = .ptr (.arg 0) g0_ 0 0 → e 1 = (.int .i64 c1) → zcS (e 4) m 4 10 (zcB c3) → zcS (e 6) m 6 10 (zcB c4) → m (.arg 0) = some (.rows g0_ false true 1 [zac c2]) → ∀ (K : Ex → St → Option Res) (R : Option Res), zeL c1 c2 c3 c4 g0_ K R out → zbX cfg (dfn cfg n) n zgY K ⟨e, m⟩ = R := by
 obtain ⟨N1, t1⟩ := zaq c2 zfE
 obtain ⟨N2, t2⟩ := zaq c2 zfP
 obtain ⟨N3, t3⟩ := zaq c2 zd5
 obtain ⟨N4, t4⟩ := zaq c2 zjS
 unfold zc4 at h
 refine ⟨N1 + N2 + N3 + N4 + 6, fun n hn g0_ e m i0 i1 i2 i3 i4 K R hK => ?_⟩
 conv => lhs; arg 4; whnf
 obtain ⟨_, f1, f2⟩ := i2
 obtain ⟨_, f3, f4⟩ := i3
 simp -dsimp -implicitDefEqProofs only [go_sem, i0, i1, f1, f2, f3, f4, i4, simprocAttr]
 refine zai (zAY c1 c2 c3 c4 n g0_ (zbW (m (.loc 18 0))) (zbW (m (.loc 16 0))) _ R (t1 n (by omega)) (t2 n (by omega)) (t3 n (by omega)) (t4 n (by omega)) ?_ 5 [] (by decide) (by simp) n (by omega) _ _ ?_ ?_ ?_ ?_ ?_ ?_ ?_ ?_)
 · intro x w hx e m a0 a1 a2 a3 a4
   rw [hx] at h; cases h
   exact (if_pos rfl).trans (hK e m a0 a1 a2 a3 a4)
 · simp -dsimp -implicitDefEqProofs only [go_sem, i0, i1, f1, f2, f3, f4, i4, simprocAttr]
 · simp -dsimp -implicitDefEqProofs only [go_sem, i0, i1, f1, f2, f3, f4, i4, simprocAttr]
 · simp -dsimp -implicitDefEqProofs only [zcS, go_sem, i0, i1, f1, f2, f3, f4, i4, simprocAttr]; exact ⟨_, rfl, rfl⟩
 · simp -dsimp -implicitDefEqProofs only [zcS, go_sem, i0, i1, f1, f2, f3, f4, i4, simprocAttr]; exact ⟨_, rfl, rfl⟩
 · simp -dsimp -implicitDefEqProofs only [go_sem, i0, i1, f1, f2, f3, f4, i4, simprocAttr]
 · simp -dsimp -implicitDefEqProofs only [go_sem, i0, i1, f1, f2, f3, f4, i4, simprocAttr]
 · simp -dsimp -implicitDefEqProofs only [go_sem, i0, i1, f1, f2, f3, f4, i4, simprocAttr]
 · simp -dsimp -implicitDefEqProofs only [go_sem, i0, i1, f1, f2, f3, f4, i4, simprocAttr]; rfl
theorem zma {kk : Nat} {a : zab} {b : Int} {sz : Nat} (hg : zss sz) {r : zap × Bool × zab} (h : zd3 kk sz a b = some r) : ∃ N, ∀ n, N ≤ n → ∀ g0_, dfn cfg n 147 [(.ptr (.arg 0) g0_ 0 0), (.int .i64 b)] [.rows g0_ false true 1 [zac a]] = some ⟨(.tup [(.agg (zcB r.1)), (.bool r.2.1)]), [.rows g0_ false true 1 [zac r.2.2]], []⟩ := by
 have ⟨hA, _, _, hE⟩ := hg
 unfold zd3 at h
 have E := evT
 obtain ⟨q5, o2_, h⟩ := zaa h
 obtain ⟨_, l1_, E⟩ := E.lj (zkA hg o2_)
 rcases zae h with ⟨h4_, h⟩ | ⟨h4_, h⟩
 obtain ⟨_, h5_, h⟩ := zaa h
 have E := E.and (zgd q5.1 [116, 46, 48, 49, 50, 51, 52, 53, 54, 55, 56, 57] (zah h5_))
 obtain ⟨_, h6_, h⟩ := zaa h
 have E := E.and (zuu ((zkj q5.1 [116, 46, 48, 49, 50, 51, 52, 53, 54, 55, 56, 57]).1) (zah h6_))
 rotate_left
 rcases zae h with ⟨h7_, h⟩ | ⟨h7_, h⟩
 obtain ⟨_, h8_, h⟩ := zaa h
 obtain ⟨_, l9_, E⟩ := E.lj (hE q5.1 (zap.zero.setKind q5.2) b (zah h8_))
 rcases zae h with ⟨h10_, h⟩ | ⟨h10_, h⟩
 have E := E.and (zaq ((zcI q5.1 (zap.zero.setKind q5.2) b).2.1) [93])
 rotate_left
 rotate_left
 obtain ⟨_, h11_, h⟩ := zaa h
 have E := E.and (hA q5.1 (IntKind.wrap .i64 (b - 1)) (zah h11_))
 rcases zae h with ⟨h12_, h⟩ | ⟨h12_, h⟩
 obtain ⟨b13_, b14_⟩ := zcK h12_
 have E := E.and (zaq ((zct q5.1 (IntKind.wrap .i64 (b - 1))).2.2) [44, 32])
 rcases zae h with ⟨h15_, h⟩ | ⟨h15_, h⟩
 obtain ⟨_, h16_, h⟩ := zaa h
 have E := E.and (hA ((zaG ((zct q5.1 (IntKind.wrap .i64 (b - 1))).2.2) [44, 32]).2) (IntKind.wrap .i64 (b - 1)) (zah h16_))
 rcases zae h with ⟨h17_, h⟩ | ⟨h17_, h⟩
 have E := E.and (zaq ((zct ((zaG ((zct q5.1 (IntKind.wrap .i64 (b - 1))).2.2) [44, 32]).2) (IntKind.wrap .i64 (b - 1))).2.2) [93])
 rotate_left
 rotate_left
 rotate_left
 rcases zcd h12_ with b18_ | ⟨b18_, b19_⟩
 rcases zae h with ⟨h20_, h⟩ | ⟨h20_, h⟩
 exact absurd (b18_.symm.trans h20_) (by decide)
 rotate_left
 rcases zae h with ⟨h21_, h⟩ | ⟨h21_, h⟩
 have E := E.and (zaq ((zct q5.1 (IntKind.wrap .i64 (b - 1))).2.2) [93])
 rotate_left
 exact absurd (b18_.symm.trans h21_) (by decide)
 all_goals
  obtain rfl := Option.some.inj h
  refine E.s fun n x g0_ => ?_
  have j0 := zgq cfg (dfn cfg n) n zgY
  (conv at j0 => intro k s; lhs; arg 4; whnf)
  first | (have := l9_; obtain ⟨gal9_, el9_⟩ := l9_.1 n (by omega); have el9_ : ∀ g0_ g1_, dfn cfg n 175 [(.ptr (.arg 0) g0_ 0 0), (.ptr (.arg 1) g1_ 0 0), (.int .i64 b)] [.rows g0_ false true 1 [zac q5.1], .rows g1_ false true 10 [zcB (zap.zero.setKind q5.2)]] = some ⟨(.bool ((zcI q5.1 (zap.zero.setKind q5.2) b).1)), [.rows g0_ false true 1 [zac ((zcI q5.1 (zap.zero.setKind q5.2) b).2.1)], .rows g1_ false (zHE (((zcI q5.1 (zap.zero.setKind q5.2) b).2.2).items.l)) 10 [[(.int .i64 (((zcI q5.1 (zap.zero.setKind q5.2) b).2.2).kind)), (.int .i64 ((((zcI q5.1 (zap.zero.setKind q5.2) b).2.2).row).table)), (.int .i64 ((((zcI q5.1 (zap.zero.setKind q5.2) b).2.2).row).seq)), (dSl (cSl zau) (((zcI q5.1 (zap.zero.setKind q5.2) b).2.2).args)), (.int .i64 (((zcI q5.1 (zap.zero.setKind q5.2) b).2.2).func)), (zE3 (((zcI q5.1 (zap.zero.setKind q5.2) b).2.2).items.l) (gal9_ g0_ g1_)), (.int .i64 (((zcI q5.1 (zap.zero.setKind q5.2) b).2.2).op)), (.int .i64 ((((zcI q5.1 (zap.zero.setKind q5.2) b).2.2).bound).kind)), (.int .i64 ((((zcI q5.1 (zap.zero.setKind q5.2) b).2.2).bound).int)), (.str ((((zcI q5.1 (zap.zero.setKind q5.2) b).2.2).bound).text))]]], zE4 (gal9_ g0_ g1_) 4 zao (((zcI q5.1 (zap.zero.setKind q5.2) b).2.2).items.l)⟩ := el9_; rcases em2 (((zcI q5.1 (zap.zero.setKind q5.2) b).2.2).items.l = []) with hl9_ | hl9_ <;> (simp only [zE3, zE4, zHE, hl9_, if_true, if_false, List.map_nil, List.length_nil] at el9_; simp -dsimp -implicitDefEqProofs only [go_sem, ↓j0, func147, f147, *, simprocAttr]; refine zg5 (l1_.1 n (by omega) g0_ _ _ ?_ ?_ ?_ ?_ ?_ _ _ ?_); (iterate 5 (simp -dsimp -implicitDefEqProofs only [go_sem, *, simprocAttr])); simp only [zeL]; intro e m i0 i1 i2 i3 i4; obtain ⟨_, _, _⟩ := i2; obtain ⟨_, _, _⟩ := i3; simp -dsimp -implicitDefEqProofs only [go_sem, ↓j0, func147, f147, *, simprocAttr] <;> simp -dsimp -implicitDefEqProofs only [go_sem, ↓j0, func147, f147, ze7, *, simprocAttr])) | (have := l1_; simp -dsimp -implicitDefEqProofs only [go_sem, ↓j0, func147, f147, *, simprocAttr]; refine zg5 (l1_.1 n (by omega) g0_ _ _ ?_ ?_ ?_ ?_ ?_ _ _ ?_); (iterate 5 (simp -dsimp -implicitDefEqProofs only [go_sem, *, simprocAttr])); simp only [zeL]; intro e m i0 i1 i2 i3 i4; obtain ⟨_, _, _⟩ := i2; obtain ⟨_, _, _⟩ := i3; simp -dsimp -implicitDefEqProofs only [go_sem, ↓j0, func147, f147, *, simprocAttr] <;> simp -dsimp -implicitDefEqProofs only [go_sem, ↓j0, func147, f147, ze7, *, simprocAttr])
def zcf (c2 : Int) (g0_ : Nat) (g1_ : Nat) (K : Ex → St → Option Res) (R : Option Res → Prop) : Out (Bool × zab × zap) (zab × zap × List zaf) → Prop
 | .ret r => ∀ (e : Env) (m : Mem), e 6 = (.bool r.1) → m (.arg 0) = some (.rows g0_ false true 1 [zac r.2.1]) → zsc m 1 g1_ 10 (fun d => [(.int .i64 r.2.2.kind), (.int .i64 r.2.2.row.table), (.int .i64 r.2.2.row.seq), (dSl (cSl zau) r.2.2.args), (.int .i64 r.2.2.func), d, (.int .i64 r.2.2.op), (.int .i64 r.2.2.bound.kind), (.int .i64 r.2.2.bound.int), (.str r.2.2.bound.text)]) [55] 4 zao r.2.2.items.l → R (K .ret ⟨e, m⟩)
 | .done q => ∀ (e : Env) (m : Mem), e 1 = .ptr (.arg 1) g1_ 0 0 → zxT (e 3) m 3 1 [(.ptr (.arg 0) g0_ 0 0)] → m (.arg 0) = some (.rows g0_ false true 1 [zac q.1]) → zsc m 1 g1_ 10 (fun d => [(.int .i64 q.2.1.kind), (.int .i64 q.2.1.row.table), (.int .i64 q.2.1.row.seq), (dSl (cSl zau) q.2.1.args), (.int .i64 q.2.1.func), d, (.int .i64 q.2.1.op), (.int .i64 q.2.1.bound.kind), (.int .i64 q.2.1.bound.int), (.str q.2.1.bound.text)]) [55] 4 zao q.2.2 → R (K (.exit 0) ⟨e, m⟩)
noncomputable def zkM : Code := zb4 f175 [1, 1, 0, 0, 0]
theorem zgP {c2 : Int} {sz : Nat} (hg : zss sz) {kk : Nat} : ∀ {k : Nat} {s3 : zab} {s4 : zap} {s5 : List zaf} {out : Out (Bool × zab × zap) (zab × zap × List zaf)}, zbH c2 sz kk k s3 s4 s5 = some out → ∃ N, ∀ n, N ≤ n → ∀ k, N ≤ k → ∀ g0_ g1_, ∀ (e : Env) (m : Mem), e 1 = .ptr (.arg 1) g1_ 0 0 → e 2 = (.int .i64 c2) → zxT (e 3) m 3 1 [(.ptr (.arg 0) g0_ 0 0)] → m (.arg 0) = some (.rows g0_ false true 1 [zac s3]) → zsc m 1 g1_ 10 (fun d => [(.int .i64 s4.kind), (.int .i64 s4.row.table), (.int .i64 s4.row.seq), (dSl (cSl zau) s4.args), (.int .i64 s4.func), d, (.int .i64 s4.op), (.int .i64 s4.bound.kind), (.int .i64 s4.bound.int), (.str s4.bound.text)]) [55] 4 zao s5 → ∀ (K : Ex → St → Option Res) (R : Option Res → Prop), zcf c2 g0_ g1_ K R out → R (zc0 (zbX cfg (dfn cfg n) n zkM) K k ⟨e, m⟩) := by
 have ⟨hA, _, _, _⟩ := hg
 intro k
 induction k with
 | zero => intro s3 s4 s5 out h; cases h
 | succ k ih => ?_
 intro s3 s4 s5 out h
 have ih := fun x0 x1 x2 {out} => @ih x0 x1 x2 out
 unfold zbH at h
 have E := evT
 rcases zae h with ⟨h1_, h⟩ | ⟨h1_, h⟩
 obtain ⟨_, h2_, h⟩ := zaa h
 have E := E.and (zgV s3 (zah h2_))
 rcases zae h with ⟨h3_, h⟩ | ⟨h3_, h⟩
 have b4_ := zar h3_
 have b5_ := zan b4_
 have E := E.and (zaq ((zi6 s3).2.2) [58, 32])
 rcases zae h with ⟨h6_, h⟩ | ⟨h6_, h⟩
 have b7_ := zar h6_
 rotate_left
 have b8_ := zan h6_
 obtain ⟨_, h9_, h⟩ := zaa h
 have E := E.and (hA ((zaG ((zi6 s3).2.2) [58, 32]).2) (IntKind.wrap .i64 (c2 - 1)) (zah h9_))
 rcases zae h with ⟨h10_, h⟩ | ⟨h10_, h⟩
 have b11_ := zar h10_
 rotate_left
 have b12_ := zan h10_
 obtain ⟨_, h13_, h⟩ := zaa h
 have h13_ := zah h13_
 try simp -dsimp -implicitDefEqProofs only [go_sem, simprocAttr] at h13_
 have E := E.and (zaq ((zct ((zaG ((zi6 s3).2.2) [58, 32]).2) (IntKind.wrap .i64 (c2 - 1))).2.2) [59, 32])
 rcases zae h with ⟨h14_, h⟩ | ⟨h14_, h⟩
 have b15_ := zar h14_
 rotate_left
 have b16_ := zan h14_
 rotate_left
 have b17_ := zan h3_
 have b18_ := zar b17_
 rotate_left
 rotate_left
 all_goals
  first | (obtain rfl := Option.some.inj h; refine E.l fun n k x => ?_) | refine E.c (ih _ _ _ h) fun n k x I => ?_
  intro g0_ g1_ e m i0 i1 i2 i3 i4 K R hK
  obtain ⟨_, _, _⟩ := i2
  obtain ⟨_, _, i4⟩ := i4
  rcases znY i4 with ⟨_, _⟩ | ⟨_, _, _, _⟩ <;> (rw [zaB]; (conv => arg 1; arg 4; whnf); (first | (simp -dsimp -implicitDefEqProofs only [go_sem, *, simprocAttr]; simp only [zcf] at hK; refine hK _ _ ?_ ?_ ?_; (iterate 3 (first | (focus (simp -dsimp -implicitDefEqProofs only [go_sem, *, simprocAttr]; done)) | (unfold zsc; simp -dsimp -implicitDefEqProofs only [go_sem, ze7, *, simprocAttr]; refine ⟨_, rfl, ?_⟩; simp -dsimp -implicitDefEqProofs only [go_sem, ze7, *, simprocAttr])))) | (simp -dsimp -implicitDefEqProofs only [go_sem, *, simprocAttr]; simp only [zcf] at hK; refine hK _ _ ?_ ?_ ?_ ?_; (iterate 4 (first | (focus (simp -dsimp -implicitDefEqProofs only [go_sem, *, simprocAttr]; done)) | (unfold zsc; simp -dsimp -implicitDefEqProofs only [go_sem, ze7, *, simprocAttr]; refine ⟨_, rfl, ?_⟩; simp -dsimp -implicitDefEqProofs only [go_sem, ze7, *, simprocAttr])))) | (simp -dsimp -implicitDefEqProofs only [go_sem, *, simprocAttr]; refine zg6 (I.1 g0_ g1_ _ _ ?_ ?_ ?_ ?_ ?_ _ _ hK); (iterate 5 (first | (focus (simp -dsimp -implicitDefEqProofs only [go_sem, *, simprocAttr]; done)) | (unfold zsc; simp -dsimp -implicitDefEqProofs only [go_sem, ze7, *, simprocAttr]; refine ⟨_, rfl, ?_⟩; simp -dsimp -implicitDefEqProofs only [go_sem, ze7, *, simprocAttr]))))))
def zk0 (r : Bool × zab × zap) (g0_ g1_ : Nat) (X : Option Res) : Prop := ∃ γ_, X = some ⟨(.bool r.1), [.rows g0_ false true 1 [zac r.2.1], .rows g1_ false (zHE (r.2.2.items.l)) 10 [[(.int .i64 r.2.2.kind), (.int .i64 r.2.2.row.table), (.int .i64 r.2.2.row.seq), (dSl (cSl zau) r.2.2.args), (.int .i64 r.2.2.func), (zE3 (r.2.2.items.l) γ_), (.int .i64 r.2.2.op), (.int .i64 r.2.2.bound.kind), (.int .i64 r.2.2.bound.int), (.str r.2.2.bound.text)]]], zE4 γ_ 4 zao (r.2.2.items.l)⟩
theorem zlC {kk : Nat} {a : zab} {b : zap} {c : Int} {sz : Nat} (hg : zss sz) {r : Bool × zab × zap} (h : zcN kk sz a b c = some r) : ∃ N, ∀ n, N ≤ n → ∀ g0_ g1_, zk0 r g0_ g1_ (dfn cfg n 175 [(.ptr (.arg 0) g0_ 0 0), (.ptr (.arg 1) g1_ 0 0), (.int .i64 c)] [.rows g0_ false true 1 [zac a], .rows g1_ false true 10 [zcB (b.setItems Sl.nil)]]) := by
 unfold zcN at h
 have E := evT
 have E := E.and (ziz )
 obtain ⟨_, h19_, h⟩ := zaa h
 have E := E.and (zev (ziW) a (zah h19_))
 rcases zbj h with ⟨r22_, o21_, h⟩ | ⟨q9, o21_, h⟩
 obtain ⟨_, l20_, E⟩ := E.lp (zgP hg o21_)
 rotate_left
 obtain ⟨_, l23_, E⟩ := E.lp (zgP hg o21_)
 rcases zae h with ⟨h24_, h⟩ | ⟨h24_, h⟩
 have b25_ := zar h24_
 have E := E.and (zaq q9.1 [125, 32])
 rcases zae h with ⟨h26_, h⟩ | ⟨h26_, h⟩
 have b27_ := zar h26_
 rotate_left
 have b28_ := zan h26_
 have E := E.and (ziy )
 obtain ⟨_, h29_, h⟩ := zaa h
 have E := E.and (zeu (zfr) ((zaG q9.1 [125, 32]).2) (zah h29_))
 obtain ⟨_, h30_, h⟩ := zaa h
 have E := E.and (zgV ((zre (zfr) ((zaG q9.1 [125, 32]).2)).2) (zah h30_))
 rcases Bool.eq_false_or_eq_true ((decide (0 ≤ ((zre (zfr) ((zaG q9.1 [125, 32]).2)).1)))) with h31_ | h31_
 rotate_left
 rotate_left
 have b32_ := zan h24_
 rotate_left
 all_goals
  obtain rfl := Option.some.inj h
  refine E.s fun n x g0_ g1_ => ?_
  first | (have := l20_; simp -dsimp -implicitDefEqProofs only [go_sem, func175, f175, *, simprocAttr]; refine zg6 (l20_.1 n (by omega) g0_ g1_ _ _ ?_ ?_ ?_ ?_ ?_ _ _ ?_); (iterate 5 (first | (focus (simp -dsimp -implicitDefEqProofs only [go_sem, *, simprocAttr]; done)) | (unfold zsc; simp -dsimp -implicitDefEqProofs only [go_sem, ze7, *, simprocAttr]; refine ⟨_, rfl, ?_⟩; simp -dsimp -implicitDefEqProofs only [go_sem, ze7, *, simprocAttr]))); simp only [zcf]; intro e m i0 i1 i2; obtain ⟨_, _, i2⟩ := i2; rcases znY i2 with ⟨_, _⟩ | ⟨_, _, _, _⟩ <;> (simp -dsimp -implicitDefEqProofs only [go_sem, func175, f175, *, simprocAttr]; (first | (refine ⟨0, ?_⟩; (try conv => lhs; simp -dsimp -implicitDefEqProofs only [go_sem, func175, f175, ze7, *, simprocAttr]); (conv => rhs; simp -dsimp -implicitDefEqProofs only [go_sem, func175, f175, ze7, zE3, zE4, *, simprocAttr]); (try rfl); done) | (apply Exists.intro; (try conv => lhs; simp -dsimp -implicitDefEqProofs only [go_sem, func175, f175, ze7, *, simprocAttr]); (conv => rhs; simp -dsimp -implicitDefEqProofs only [go_sem, func175, f175, ze7, zE3, zE4, *, simprocAttr]); (try rfl); done)))) | (have := l23_; simp -dsimp -implicitDefEqProofs only [go_sem, func175, f175, *, simprocAttr]; refine zg6 (l23_.1 n (by omega) g0_ g1_ _ _ ?_ ?_ ?_ ?_ ?_ _ _ ?_); (iterate 5 (first | (focus (simp -dsimp -implicitDefEqProofs only [go_sem, *, simprocAttr]; done)) | (unfold zsc; simp -dsimp -implicitDefEqProofs only [go_sem, ze7, *, simprocAttr]; refine ⟨_, rfl, ?_⟩; simp -dsimp -implicitDefEqProofs only [go_sem, ze7, *, simprocAttr]))); simp only [zcf]; intro e m i0 i1 i2 i3; obtain ⟨_, _, _⟩ := i1; obtain ⟨_, _, i3⟩ := i3; rcases znY i3 with ⟨_, _⟩ | ⟨_, _, _, _⟩ <;> (simp -dsimp -implicitDefEqProofs only [go_sem, func175, f175, *, simprocAttr]; (first | (refine ⟨0, ?_⟩; (try conv => lhs; simp -dsimp -implicitDefEqProofs only [go_sem, func175, f175, ze7, *, simprocAttr]); (conv => rhs; simp -dsimp -implicitDefEqProofs only [go_sem, func175, f175, ze7, zE3, zE4, *, simprocAttr]); (try rfl); done) | (apply Exists.intro; (try conv => lhs; simp -dsimp -implicitDefEqProofs only [go_sem, func175, f175, ze7, *, simprocAttr]); (conv => rhs; simp -dsimp -implicitDefEqProofs only [go_sem, func175, f175, ze7, zE3, zE4, *, simprocAttr]); (try rfl); done))))
theorem zl7 {kk : Nat} {a : zab} {b : zap} {c : Int} {sz : Nat} (hg : zss sz) {r : Bool × zab × zap} (h : zcN kk sz a b c = some r) : ∃ N, ∀ n, N ≤ n → ∃ γ_ : Nat → Nat → Nat, ∀ g0_ g1_,  dfn cfg n 175 [(.ptr (.arg 0) g0_ 0 0), (.ptr (.arg 1) g1_ 0 0), (.int .i64 c)] [.rows g0_ false true 1 [zac a], .rows g1_ false true 10 [zcB (b.setItems Sl.nil)]] = some ⟨(.bool r.1), [.rows g0_ false true 1 [zac r.2.1], .rows g1_ false (zHE (r.2.2.items.l)) 10 [[(.int .i64 r.2.2.kind), (.int .i64 r.2.2.row.table), (.int .i64 r.2.2.row.seq), (dSl (cSl zau) r.2.2.args), (.int .i64 r.2.2.func), (zE3 (r.2.2.items.l) (γ_ g0_ g1_)), (.int .i64 r.2.2.op), (.int .i64 r.2.2.bound.kind), (.int .i64 r.2.2.bound.int), (.str r.2.2.bound.text)]]], zE4 (γ_ g0_ g1_) 4 zao (r.2.2.items.l)⟩ := by
 obtain ⟨N, hN⟩ := zlC hg h
 exact ⟨N, fun n hn => ⟨fun g0_ g1_ => (hN n hn g0_ g1_).choose, fun g0_ g1_ => (hN n hn g0_ g1_).choose_spec⟩⟩
theorem zAC : ∀ s : Nat, s < big → zss s := by
 intro s
 induction s with
 | zero => intro _; exact ⟨fun _ _ h => absurd h (by omega), fun _ _ h => absurd h (by omega), fun _ _ h => absurd h (by omega), fun _ _ _ h => absurd h (by omega)⟩
 | succ s ih =>
   intro hb
   have hg := ih (by omega)
   exact ⟨
    fun a b h => zjc (sz := s) hg (ziq (kk := big) (sz := s) h),
    fun a b h => zl8 (sz := s) hg (zkF (kk := big) (sz := s) h),
    fun a b h => zma (sz := s) hg (zkH (kk := big) (sz := s) h),
    fun a b c h => zl7 (sz := s) hg (zkE (kk := big) (sz := s) h)⟩
theorem zjk (a : zab) (b : Int) (h : (a.rest.length < lim ∧ -1 ≤ b ∧ b ≤ 8 ∧ 4 * (b + 1).toNat + 3 < big - 1)) : ∃ N, ∀ n, N ≤ n → ∀ g0_, dfn cfg n 57 [(.ptr (.arg 0) g0_ 0 0), (.int .i64 b)] [.rows g0_ false true 1 [zac a]] = some ⟨(.tup [(dSl zau ((zct a b).1)), (.bool ((zct a b).2.1))]), [.rows g0_ false true 1 [zac ((zct a b).2.2)]], []⟩ := (zAC (big - 1) (by unfold big; omega)).1 a b h
end Go.Proofs.Tryz
set_option maxRecDepth 100000
set_option maxHeartbeats 4000000
set_option linter.unusedSimpArgs false
set_option linter.unusedVariables false
namespace Go.Proofs.Tryz
open Go.Ev
noncomputable def zNt : Code := zb4 f47 [1, 0, 0, 0]
theorem zHn : ∀ (j : Nat) (l : List Int) (x : Int), 0 ≤ x → x < 128 ^ (j + 1) → l.length + j < lim → ∃ N, ∀ n, N ≤ n → ∀ k, N ≤ k → ∀ (g : Nat) (e : Env) (m : Mem), e 0 = .own (.arg 0) g 0 l.length → m (.arg 0) = some (.rows g false true 1 (l.map (cI .u8))) → e 1 = .int .u64 x →
 ∀ (K : Ex → St → Option Res) (R : Option Res → Prop), (∀ (g : Nat) (e : Env) (m : Mem), e 0 = .own (.arg 0) g 0 (ziB j l x).1.length → m (.arg 0) = some (.rows g false true 1 ((ziB j l x).1.map (cI .u8))) → e 1 = .int .u64 (ziB j l x).2 → R (K (.exit 0) ⟨e, m⟩)) →
 R (zc0 (zbX cfg (dfn cfg n) n zNt) K k ⟨e, m⟩) := by
 intro j
 induction j with
 | zero =>
   intro l x h0 h1 hl
   have hx : decide (128 ≤ x) = false := by simp; omega
   have E := evT
   refine E.l fun n k _ => ?_
   intro g e m i0 i1 i2 K R hK
   rw [zaB]
   conv => arg 1; arg 4; whnf
   simp -dsimp -implicitDefEqProofs only [go_sem, *, simprocAttr]
   refine hK g _ _ ?_ ?_ ?_ <;> simp -dsimp -implicitDefEqProofs only [go_sem, ziB, *, simprocAttr]
 | succ j ih =>
   intro l x h0 h1 hl
   have E := evT
   by_cases hx : x < 128
   · have hx' : decide (128 ≤ x) = false := by simp; omega
     refine E.l fun n k _ => ?_
     intro g e m i0 i1 i2 K R hK
     simp only [ziB, if_pos hx] at hK
     rw [zaB]
     conv => arg 1; arg 4; whnf
     simp -dsimp -implicitDefEqProofs only [go_sem, *, simprocAttr]
     refine hK g _ _ ?_ ?_ ?_ <;> simp -dsimp -implicitDefEqProofs only [go_sem, *, simprocAttr]
   · have hx' : decide (128 ≤ x) = true := by simp; omega
     have hs : zsx .u64 x 7 = x / 128 := by
      show Int.fdiv x (2 ^ min (7 : Int).toNat (IntKind.bits .u64)) = x / 128
      rw [show (2 : Int) ^ min (7 : Int).toNat (IntKind.bits .u64) = 128 from rfl, Int.fdiv_eq_ediv_of_nonneg _ (by omega)]
     obtain ⟨o1, o2⟩ : 0 ≤ zsx .u64 x 7 ∧ zsx .u64 x 7 < 128 ^ (j + 1) := by
      rw [hs]; exact ⟨by omega, Int.ediv_lt_of_lt_mul (by omega) (by rw [Int.pow_succ] at h1; exact h1)⟩
     have hr : (l.length + 1) * 1 ≤ room := by unfold lim at hl; unfold room; omega
     simp -dsimp -implicitDefEqProofs only [go_sem, simprocAttr] at hr
     clear hs
     refine E.c (ih (l ++ [orK .u8 (IntKind.wrap .u8 x) 128]) (zsx .u64 x 7) o1 o2 (by simp; omega)) fun n k _ I => ?_
     intro g e m i0 i1 i2 K R hK
     simp only [ziB, if_neg hx] at hK
     rw [zaB]
     conv => arg 1; arg 4; whnf
     simp -dsimp -implicitDefEqProofs only [go_sem, *, simprocAttr]
     refine zg6 (I.1 (g + 1) _ _ ?_ ?_ ?_ K R hK) <;> simp -dsimp -implicitDefEqProofs only [go_sem, *, simprocAttr]
def zQf (l : List Int) (X : Option Res) : Prop := ∃ γ, X = some ⟨.own (.arg 0) γ 0 l.length, [.rows γ false true 1 (l.map (cI .u8))], []⟩
theorem zGc (l : List Int) (x : Int) (h0 : 0 ≤ x) (h1 : x < 18446744073709551616) (hl : l.length + 16 < lim) : ∃ N, ∀ n, N ≤ n → ∀ g, zQf (zvd l x) (dfn cfg n 47 [.own (.arg 0) g 0 l.length, .int .u64 x] [.rows g false true 1 (l.map (cI .u8))]) := by
 have E := evT
 obtain ⟨_, i1, E⟩ := E.lp (zHn 9 l x h0 (by simpa using Int.lt_trans h1 (by decide)) (by omega))
 have hr : ((ziB 9 l x).1.length + 1) * 1 ≤ room := by have := zp0 9 l x; unfold lim at hl; unfold room; omega
 simp -dsimp -implicitDefEqProofs only [go_sem, simprocAttr] at hr
 refine E.s fun n q g => ?_
 simp -dsimp -implicitDefEqProofs only [go_sem, func47, f47, *, simprocAttr]
 refine zg6 (i1.1 n (by omega) g _ _ ?_ ?_ ?_ _ _ ?_)
 · simp -dsimp -implicitDefEqProofs only [go_sem, *, simprocAttr]
 · simp -dsimp -implicitDefEqProofs only [go_sem, *, simprocAttr]
 · simp -dsimp -implicitDefEqProofs only [go_sem, *, simprocAttr]
 intro g e m i2 i3 i4
 simp -dsimp -implicitDefEqProofs only [go_sem, *, simprocAttr]
 simp only [zQf, zvd]
 simp -dsimp -implicitDefEqProofs only [go_sem, *, simprocAttr]
 exact ⟨_, rfl⟩
theorem zFu : ∀ (j : Nat) (l : List Int) (x : Int), 0 ≤ x → x < 128 ^ (j + 1) → l.length + j < lim → ∃ N, ∀ n, N ≤ n → ∀ k, N ≤ k → ∀ (g : Nat) (e : Env) (m : Mem), e 0 = .own (.loc 12 0) g 0 l.length → m (.loc 12 0) = some (.rows g false true 1 (l.map (cI .u8))) → e 1 = .int .u64 x →
 ∀ (K : Ex → St → Option Res) (R : Option Res → Prop), (∀ (g : Nat) (e : Env) (m : Mem), e 0 = .own (.loc 12 0) g 0 (ziB j l x).1.length → m (.loc 12 0) = some (.rows g false true 1 ((ziB j l x).1.map (cI .u8))) → e 1 = .int .u64 (ziB j l x).2 → R (K (.exit 0) ⟨e, m⟩)) →
 R (zc0 (zbX cfg (dfn cfg n) n zNt) K k ⟨e, m⟩) := by
 intro j
 induction j with
 | zero =>
   intro l x h0 h1 hl
   have hx : decide (128 ≤ x) = false := by simp; omega
   have E := evT
   refine E.l fun n k _ => ?_
   intro g e m i0 i1 i2 K R hK
   rw [zaB]
   conv => arg 1; arg 4; whnf
   simp -dsimp -implicitDefEqProofs only [go_sem, *, simprocAttr]
   refine hK g _ _ ?_ ?_ ?_ <;> simp -dsimp -implicitDefEqProofs only [go_sem, ziB, *, simprocAttr]
 | succ j ih =>
   intro l x h0 h1 hl
   have E := evT
   by_cases hx : x < 128
   · have hx' : decide (128 ≤ x) = false := by simp; omega
     refine E.l fun n k _ => ?_
     intro g e m i0 i1 i2 K R hK
     simp only [ziB, if_pos hx] at hK
     rw [zaB]
     conv => arg 1; arg 4; whnf
     simp -dsimp -implicitDefEqProofs only [go_sem, *, simprocAttr]
     refine hK g _ _ ?_ ?_ ?_ <;> simp -dsimp -implicitDefEqProofs only [go_sem, *, simprocAttr]
   · have hx' : decide (128 ≤ x) = true := by simp; omega
     have hs : zsx .u64 x 7 = x / 128 := by
      show Int.fdiv x (2 ^ min (7 : Int).toNat (IntKind.bits .u64)) = x / 128
      rw [show (2 : Int) ^ min (7 : Int).toNat (IntKind.bits .u64) = 128 from rfl, Int.fdiv_eq_ediv_of_nonneg _ (by omega)]
     obtain ⟨o1, o2⟩ : 0 ≤ zsx .u64 x 7 ∧ zsx .u64 x 7 < 128 ^ (j + 1) := by
      rw [hs]; exact ⟨by omega, Int.ediv_lt_of_lt_mul (by omega) (by rw [Int.pow_succ] at h1; exact h1)⟩
     have hr : (l.length + 1) * 1 ≤ room := by unfold lim at hl; unfold room; omega
     simp -dsimp -implicitDefEqProofs only [go_sem, simprocAttr] at hr
     clear hs
     refine E.c (ih (l ++ [orK .u8 (IntKind.wrap .u8 x) 128]) (zsx .u64 x 7) o1 o2 (by simp; omega)) fun n k _ I => ?_
     intro g e m i0 i1 i2 K R hK
     simp only [ziB, if_neg hx] at hK
     rw [zaB]
     conv => arg 1; arg 4; whnf
     simp -dsimp -implicitDefEqProofs only [go_sem, *, simprocAttr]
     refine zg6 (I.1 (g + 1) _ _ ?_ ?_ ?_ K R hK) <;> simp -dsimp -implicitDefEqProofs only [go_sem, *, simprocAttr]
def zDM (l : List Int) (X : Option Res) : Prop := ∃ γ, X = some ⟨.own (.loc 0 0) γ 0 l.length, [], [.rows γ false true 1 (l.map (cI .u8))]⟩
theorem zDK (x : Int) (h0 : 0 ≤ x) (h1 : x < 18446744073709551616) : ∃ N, ∀ n, N ≤ n → zDM (zvd [] x) (dfn cfg n 47 [.sl .nil [], .int .u64 x] []) := by
 by_cases hx : x < 128
 · have hx' : decide (128 ≤ x) = false := by simp; omega
   refine ⟨2, fun n hn => ?_⟩
   obtain ⟨n, rfl⟩ : ∃ m, n = m + 2 := ⟨n - 2, by omega⟩
   have e : zvd [] x = [IntKind.wrap .u8 x] := by simp [zvd, ziB, hx]
   rw [e]
   simp -dsimp -implicitDefEqProofs only [go_sem, func47, f47, *, simprocAttr]
   refine zg6 ?_
   rw [zaB]
   simp -dsimp -implicitDefEqProofs only [go_sem, *, simprocAttr]
   simp only [zDM]
   simp -dsimp -implicitDefEqProofs only [go_sem, *, simprocAttr]
   exact ⟨_, rfl⟩
 · have hx' : decide (128 ≤ x) = true := by simp; omega
   have hs : zsx .u64 x 7 = x / 128 := by
    show Int.fdiv x (2 ^ min (7 : Int).toNat (IntKind.bits .u64)) = x / 128
    rw [show (2 : Int) ^ min (7 : Int).toNat (IntKind.bits .u64) = 128 from rfl, Int.fdiv_eq_ediv_of_nonneg _ (by omega)]
   obtain ⟨N, hN⟩ := zFu 8 ([orK .u8 (IntKind.wrap .u8 x) 128]) (zsx .u64 x 7) (by rw [hs]; omega) (by rw [hs]; have : (128 : Int) ^ (8 + 1) = 9223372036854775808 := (by decide); omega) (by unfold lim; simp)
   clear hs
   have e : zvd [] x = (ziB 8 [orK .u8 (IntKind.wrap .u8 x) 128] (zsx .u64 x 7)).1 ++ [IntKind.wrap .u8 (ziB 8 [orK .u8 (IntKind.wrap .u8 x) 128] (zsx .u64 x 7)).2] := by
    unfold zvd; rw [ziB, if_neg hx]; rfl
   rw [e]
   have hr : ((ziB 8 [orK .u8 (IntKind.wrap .u8 x) 128] (zsx .u64 x 7)).1.length + 1) * 1 ≤ room := by have := zp0 8 [orK .u8 (IntKind.wrap .u8 x) 128] (zsx .u64 x 7); simp at this; unfold room; omega
   simp -dsimp -implicitDefEqProofs only [go_sem, simprocAttr] at hr
   refine ⟨N + 3, fun n hn => ?_⟩
   obtain ⟨n, rfl⟩ : ∃ m, n = m + 2 := ⟨n - 2, by omega⟩
   have I := zQd.mk (hN (n + 1) (by omega) n (by omega) 0)
   simp -dsimp -implicitDefEqProofs only [go_sem, func47, f47, *, simprocAttr]
   refine zg6 ?_
   rw [zaB]
   simp -dsimp -implicitDefEqProofs only [go_sem, *, simprocAttr]
   refine zg6 (I.1 _ _ ?_ ?_ ?_ _ _ ?_)
   · simp -dsimp -implicitDefEqProofs only [go_sem, *, simprocAttr]
   · simp -dsimp -implicitDefEqProofs only [go_sem, *, simprocAttr]
   · simp -dsimp -implicitDefEqProofs only [go_sem, *, simprocAttr]
   intro g e m i2 i3 i4
   simp -dsimp -implicitDefEqProofs only [go_sem, *, simprocAttr]
   simp only [zDM]
   simp -dsimp -implicitDefEqProofs only [go_sem, *, simprocAttr]
   exact ⟨_, rfl⟩
theorem zRN (l : List Int) (s : Str) (h : l.length + s.length + 16 < lim) : ∃ N, ∀ n, N ≤ n → ∀ g, zQf (zyq l s) (dfn cfg n 22 [.own (.arg 0) g 0 l.length, .str s] [.rows g false true 1 (l.map (cI .u8))]) := by
 have hb : 0 ≤ IntKind.wrap .u64 (s.length : Int) ∧ IntKind.wrap .u64 (s.length : Int) < 18446744073709551616 := by
  have : IntKind.wrap .u64 (s.length : Int) = (s.length : Int) % 18446744073709551616 := by simp [IntKind.wrap, IntKind.bits, IntKind.signed]
  rw [this]; omega
 obtain ⟨N, hN⟩ := zGc l (IntKind.wrap .u64 (s.length : Int)) hb.1 hb.2 (by omega)
 have hr : ((zvd l (IntKind.wrap .u64 (s.length : Int))).length + (s2b s).length) * 1 ≤ room := by have := zzn l (IntKind.wrap .u64 (s.length : Int)); simp [s2b]; unfold lim at h; unfold room; omega
 simp -dsimp -implicitDefEqProofs only [go_sem, simprocAttr] at hr
 have hro : ((s2b s).map (cI .u8)).all (fun r => List.length r == 1) = true := by simp [cI]
 refine ⟨N + 1, fun n hn g => ?_⟩
 obtain ⟨n, rfl⟩ := zIH (show 0 + 1 ≤ n by omega)
 obtain ⟨γ, e⟩ := hN n (by omega) g
 simp only [zQf, zyq]
 simp -dsimp -implicitDefEqProofs only [go_sem, func22, f22, zvp, *, simprocAttr]
 exact ⟨_, rfl⟩
theorem zNs (s : Str) (h : s.length + 16 < lim) : ∃ N, ∀ n, N ≤ n → zDM (zyq [] s) (dfn cfg n 22 [.sl .nil [], .str s] []) := by
 have hb : 0 ≤ IntKind.wrap .u64 (s.length : Int) ∧ IntKind.wrap .u64 (s.length : Int) < 18446744073709551616 := by
  have : IntKind.wrap .u64 (s.length : Int) = (s.length : Int) % 18446744073709551616 := by simp [IntKind.wrap, IntKind.bits, IntKind.signed]
  rw [this]; omega
 obtain ⟨N, hN⟩ := zDK (IntKind.wrap .u64 (s.length : Int)) hb.1 hb.2
 have hr : ((zvd [] (IntKind.wrap .u64 (s.length : Int))).length + (s2b s).length) * 1 ≤ room := by have := zzn [] (IntKind.wrap .u64 (s.length : Int)); simp [s2b] at this ⊢; unfold lim at h; unfold room; omega
 simp -dsimp -implicitDefEqProofs only [go_sem, simprocAttr] at hr
 have hro : ((s2b s).map (cI .u8)).all (fun r => List.length r == 1) = true := by simp [cI]
 refine ⟨N + 1, fun n hn => ?_⟩
 obtain ⟨n, rfl⟩ := zIH (show 0 + 1 ≤ n by omega)
 obtain ⟨γ, e⟩ := hN n (by omega)
 simp only [zDM, zyq]
 simp -dsimp -implicitDefEqProofs only [go_sem, func22, f22, zvp, *, simprocAttr]
 exact ⟨_, rfl⟩
theorem zpP (x : Int) (h : 0 ≤ x ∧ x < 18446744073709551616 ∧ ([] : List Int).length + 16 < lim) : ∃ N, ∀ n, N ≤ n → ∃ γ, dfn cfg n 47 [.sl .nil [], .int .u64 x] [] = some ⟨.own (.loc 0 0) γ 0 (zvd [] x).length, [], [.rows γ false true 1 ((zvd [] x).map (cI .u8))]⟩ := zDK x h.1 h.2.1
theorem zpO (l : List Int) (x : Int) (h : 0 ≤ x ∧ x < 18446744073709551616 ∧ l.length + 16 < lim) : ∃ N, ∀ n, N ≤ n → ∃ γ : Nat → Nat, ∀ g, dfn cfg n 47 [.own (.arg 0) g 0 l.length, .int .u64 x] [.rows g false true 1 (l.map (cI .u8))] = some ⟨.own (.arg 0) (γ g) 0 (zvd l x).length, [.rows (γ g) false true 1 ((zvd l x).map (cI .u8))], []⟩ := by
 obtain ⟨N, hN⟩ := zGc l x h.1 h.2.1 h.2.2
 exact ⟨N, fun n hn => ⟨fun g => (hN n hn g).choose, fun g => (hN n hn g).choose_spec⟩⟩
theorem zoj (s : Str) (h : ([] : List Int).length + s.length + 16 < lim) : ∃ N, ∀ n, N ≤ n → ∃ γ, dfn cfg n 22 [.sl .nil [], .str s] [] = some ⟨.own (.loc 0 0) γ 0 (zyq [] s).length, [], [.rows γ false true 1 ((zyq [] s).map (cI .u8))]⟩ := zNs s (by simpa using h)
theorem zjg (l : List Int) (s : Str) (h : l.length + s.length + 16 < lim) : ∃ N, ∀ n, N ≤ n → ∃ γ : Nat → Nat, ∀ g, dfn cfg n 22 [.own (.arg 0) g 0 l.length, .str s] [.rows g false true 1 (l.map (cI .u8))] = some ⟨.own (.arg 0) (γ g) 0 (zyq l s).length, [.rows (γ g) false true 1 ((zyq l s).map (cI .u8))], []⟩ := by
 obtain ⟨N, hN⟩ := zRN l s h
 exact ⟨N, fun n hn => ⟨fun g => (hN n hn g).choose, fun g => (hN n hn g).choose_spec⟩⟩
end Go.Proofs.Tryz
set_option maxRecDepth 100000
set_option maxHeartbeats 4000000
set_option linter.unusedSimpArgs false
set_option linter.unusedVariables false
namespace Go.Proofs.Tryz
open Go.Ev
theorem zqJ {kk : Nat} {a : Str} {r : (Sl zam) × Int} (h : zgC kk a = some r) : Ev cfg 31 [(.str a)] (.tup [(dSl zau r.1), (.int .i64 r.2)]) := by
 unfold zgC at h
 have E := evT
 obtain ⟨_, h1_, h⟩ := zaa h
 have E := E.and (zjk (zab.zero.setRest a) 8 (zah h1_))
 rcases zae h with ⟨h2_, h⟩ | ⟨h2_, h⟩
 have b3_ := zar h2_
 obtain ⟨b4_, b5_⟩ := zca b3_
 have b6_ := zan b4_
 have b7_ := zan b5_
 obtain ⟨_, h8_, h⟩ := zaa h
 have E := E.and (zis ((zct (zab.zero.setRest a) 8).1) (zah h8_))
 rcases zae h with ⟨h9_, h⟩ | ⟨h9_, h⟩
 have b10_ := zar h9_
 have b11_ := zan b10_
 obtain ⟨_, h12_, h⟩ := zaa h
 have E := E.and (zmg ((zct (zab.zero.setRest a) 8).1) (zah h12_))
 rcases zae h with ⟨h13_, h⟩ | ⟨h13_, h⟩
 have b14_ := zar h13_
 rotate_left
 have b15_ := zan h13_
 rotate_left
 have b16_ := zan h9_
 have b17_ := zar b16_
 rotate_left
 have b18_ := zan h2_
 rcases zeP b18_ with b19_ | ⟨b19_, b20_⟩
 have b21_ := zar b19_
 rotate_left
 have b22_ := zan b19_
 have b23_ := zar b20_
 rotate_left
 all_goals
  obtain rfl := Option.some.inj h
  refine E.s fun n x => ?_
  (try simp only [zbJ, go_sem] at x)
  simp -dsimp -implicitDefEqProofs only [go_sem, func31, f31, zbJ, *, simprocAttr]
theorem zqU (a : Str) (h : 5 * a.length < lim) : Ev cfg 31 [(.str a)] (.tup [(dSl zau ((zfV a).1)), (.int .i64 ((zfV a).2))]) := zqJ (zol (kk := big) a h)
theorem zpN {kk : Nat} {a : (Sl zam)} {r : Str} (h : zgc kk a = some r) : Ev cfg 24 [(dSl zau a)] (.str r) := by
 unfold zgc at h
 have E := evT
 obtain ⟨_, h1_, h⟩ := zaa h
 have E := E.and (zis a (zah h1_))
 rcases zae h with ⟨h2_, h⟩ | ⟨h2_, h⟩
 have b3_ := zar h2_
 rotate_left
 have b4_ := zan h2_
 obtain ⟨_, h5_, h⟩ := zaa h
 have E := E.and (zmg a (zah h5_))
 rotate_left
 all_goals
  obtain rfl := Option.some.inj h
  refine E.s fun n x => ?_
  simp -dsimp -implicitDefEqProofs only [go_sem, func24, f24, *, simprocAttr]
theorem zpV (a : (Sl zam)) (h : zcl a.l ∧ 20 * zal a.l + 1 < lim) : Ev cfg 24 [(dSl zau a)] (.str (znm a)) := zpN (znF 0 a h)
def zD3 (c1 : Sl Val) (c2 : Int) (K : Ex → St → Option Res) (R : Option Res) : Out (Bool) (Int) → Prop
 | .ret r => ∀ (e : Env) (m : Mem), e 4 = (.bool r) → K .ret ⟨e, m⟩ = R
 | .done q => ∀ (e : Env) (m : Mem), e 0 = (dSl zfR c1) → e 1 = (.int .i64 c2) → K (.exit 0) ⟨e, m⟩ = R
def zx0 (c1 : Sl Val) (c2 : Sl Val) (K : Ex → St → Option Res) (R : Option Res) : Out (Int) (Int) → Prop
 | .ret r => ∀ (e : Env) (m : Mem), e 4 = (.int .i64 r) → K .ret ⟨e, m⟩ = R
 | .done q => ∀ (e : Env) (m : Mem), e 0 = (dSl zfR c1) → e 1 = (dSl zfR c2) → K (.exit 0) ⟨e, m⟩ = R
def zeI (c1 : Sl Val) (c2 : Int) (K : Ex → St → Option Res) (R : Option Res) : Out (Bool) (Int) → Prop
 | .ret r => ∀ (e : Env) (m : Mem), e 2 = (.bool r) → K .ret ⟨e, m⟩ = R
 | .done q => ∀ (e : Env) (m : Mem), K (.exit 0) ⟨e, m⟩ = R
noncomputable def zpW : Code := zb4 f48 [1, 0, 1, 0, 0]
theorem zkx {c1 : Sl Val} {c2 : Int} {kk : Nat} : ∀ {k : Nat} {s3 : Int} {out : Out (Bool) (Int)}, zcR c1 c2 kk k s3 = some out → ∃ N, ∀ n, N ≤ n → ∀ k, N ≤ k → ∀ (e : Env) (m : Mem), e 5 = (dSl zfR c1) → e 6 = (.int .i64 c2) → e 7 = (.int .i64 s3) → ∀ (K : Ex → St → Option Res) (R : Option Res), zeI c1 c2 K R out → zc0 (zbX cfg (dfn cfg n) n zpW) K k ⟨e, m⟩ = R := by
 intro k
 induction k with
 | zero => intro s3 out h; cases h
 | succ k ih => ?_
 intro s3 out h
 have ih := fun x0 {out} => @ih x0 out
 unfold zcR at h
 have E := evT
 rcases zae h with ⟨h1_, h⟩ | ⟨h1_, h⟩
 obtain ⟨y4, h2_, h⟩ := zaa h
 obtain ⟨_, h3_⟩ := zbK h2_
 have h3_ := zbs h3_ zfR
 have E := E.and (zhk y4)
 rcases zae h with ⟨h4_, h⟩ | ⟨h4_, h⟩
 have b5_ := zar h4_
 rotate_left
 have b6_ := zan h4_
 rotate_left
 rotate_left
 all_goals
  first | (obtain rfl := Option.some.inj h; refine E.l fun n k x => ?_) | refine E.c (ih _ h) fun n k x I => ?_
  intro e m i0 i1 i2 K R hK
  rw [zaB]
  (conv => lhs; arg 4; whnf)
  first | (simp -dsimp -implicitDefEqProofs only [go_sem, *, simprocAttr]; simp only [zeI] at hK; refine hK _ _ ?_; simp -dsimp -implicitDefEqProofs only [go_sem, *, simprocAttr]) | (simp -dsimp -implicitDefEqProofs only [go_sem, *, simprocAttr]; refine zai (I.1 _ _ ?_ ?_ ?_ _ _ hK); (iterate 3 (simp -dsimp -implicitDefEqProofs only [go_sem, *, simprocAttr]))) | (simp -dsimp -implicitDefEqProofs only [go_sem, *, simprocAttr]; simp only [zeI] at hK; refine hK _ _)
theorem zsr {kk : Nat} {a : (Sl Val)} {r : Bool} (h : zgp kk a = some r) : Ev cfg 48 [(dSl zfR a)] (.bool r) := by
 unfold zgp at h
 have E := evT
 rcases zbj h with ⟨r9_, o8_, h⟩ | ⟨q5, o8_, h⟩
 obtain ⟨_, l7_, E⟩ := E.lp (zkx o8_)
 rotate_left
 obtain ⟨_, l10_, E⟩ := E.lp (zkx o8_)
 rotate_left
 all_goals
  obtain rfl := Option.some.inj h
  refine E.s fun n x => ?_
  first | (have := l7_; simp -dsimp -implicitDefEqProofs only [go_sem, func48, f48, *, simprocAttr]; refine zai (l7_.1 n (by omega) _ _ ?_ ?_ ?_ _ _ ?_); (iterate 3 (simp -dsimp -implicitDefEqProofs only [go_sem, *, simprocAttr])); simp only [zeI]; intro e m i0; simp -dsimp -implicitDefEqProofs only [go_sem, func48, f48, *, simprocAttr]) | (have := l10_; simp -dsimp -implicitDefEqProofs only [go_sem, func48, f48, *, simprocAttr]; refine zai (l10_.1 n (by omega) _ _ ?_ ?_ ?_ _ _ ?_); (iterate 3 (simp -dsimp -implicitDefEqProofs only [go_sem, *, simprocAttr])); simp only [zeI]; intro e m; simp -dsimp -implicitDefEqProofs only [go_sem, func48, f48, *, simprocAttr])
theorem zus {kk : Nat} {a : Int} {r : Int} (h : zi2 kk a = some r) : Ev cfg 49 [(.int .i64 a)] (.int .u64 r) := by
 unfold zi2 at h
 have E := evT
 obtain rfl := Option.some.inj h
 refine E.s fun n x => ?_
 simp -dsimp -implicitDefEqProofs only [go_sem, func49, f49, *, simprocAttr]
def zfs (c4 : Sl Val) (c5 : Int) (K : Ex → St → Option Res) (R : Option Res) : Out ((Sl Int)) (List Int × Int) → Prop
 | .ret r => ∀ (e : Env) (m : Mem), zwq (e 2) m [12] 1 (cI .u8) r → K .ret ⟨e, m⟩ = R
 | .done q => ∀ (e : Env) (m : Mem), zHo (e 3) m 12 1 (cI .u8) q.1 → K (.exit 0) ⟨e, m⟩ = R
noncomputable def zo7 : Code := zb4 f23 [1, 1, 1, 0, 1, 0, 0]
theorem zjE {c4 : Sl Val} {c5 : Int} {kk : Nat} : ∀ {k : Nat} {s3 : List Int} {s6 : Int} {out : Out ((Sl Int)) (List Int × Int)}, zbZ c4 c5 kk k s3 s6 = some out → ∃ N, ∀ n, N ≤ n → ∀ k, N ≤ k → ∀ (e : Env) (m : Mem), zHo (e 3) m 12 1 (cI .u8) s3 → e 13 = (dSl zfR c4) → e 14 = (.int .i64 c5) → e 15 = (.int .i64 s6) → ∀ (K : Ex → St → Option Res) (R : Option Res), zfs c4 c5 K R out → zc0 (zbX cfg (dfn cfg n) n zo7) K k ⟨e, m⟩ = R := by
 intro k
 induction k with
 | zero => intro s3 s6 out h; cases h
 | succ k ih => ?_
 intro s3 s6 out h
 have ih := fun x0 x1 {out} => @ih x0 x1 out
 unfold zbZ at h
 have E := evT
 rcases zae h with ⟨h1_, h⟩ | ⟨h1_, h⟩
 obtain ⟨y7, h2_, h⟩ := zaa h
 obtain ⟨_, h3_⟩ := zbK h2_
 have h3_ := zbs h3_ zfR
 obtain ⟨_, h4_, h⟩ := zaa h
 have h4_ := zah h4_
 try simp -dsimp -implicitDefEqProofs only [go_sem, simprocAttr] at h4_
 rcases zae h with ⟨h5_, h⟩ | ⟨h5_, h⟩
 obtain ⟨r9, h6_, h⟩ := zaa h
 have E := E.and (zus h6_)
 obtain ⟨_, h7_, h⟩ := zaa h
 obtain ⟨_, l8_, E⟩ := E.lj (zpO (s3 ++ [(IntKind.wrap .u8 y7.kind)]) r9 (zah h7_))
 rotate_left
 rcases zae h with ⟨h9_, h⟩ | ⟨h9_, h⟩
 obtain ⟨_, h10_, h⟩ := zaa h
 obtain ⟨_, l11_, E⟩ := E.lj (zjg (s3 ++ [(IntKind.wrap .u8 y7.kind)]) y7.text (zah h10_))
 rotate_left
 obtain ⟨_, h12_, h⟩ := zaa h
 have h12_ := zah h12_
 try simp -dsimp -implicitDefEqProofs only [go_sem, simprocAttr] at h12_
 rotate_left
 rotate_left
 all_goals
  first | (obtain rfl := Option.some.inj h; refine E.l fun n k x => ?_) | refine E.c (ih _ _ h) fun n k x I => ?_
  intro e m i0 i1 i2 i3 K R hK
  obtain ⟨_, _, _⟩ := i0
  rw [zaB]
  (conv => lhs; arg 4; whnf)
  first | (have := l8_; obtain ⟨_, el8_⟩ := l8_.1 n (by omega); (try simp -dsimp -implicitDefEqProofs only [go_sem, simprocAttr] at el8_); (try simp -dsimp -implicitDefEqProofs only [go_sem, *, simprocAttr]); refine zai (I.1 _ _ ?_ ?_ ?_ ?_ _ _ hK); (iterate 4 (simp -dsimp -implicitDefEqProofs only [go_sem, *, simprocAttr]))) | (have := l11_; obtain ⟨_, el11_⟩ := l11_.1 n (by omega); (try simp -dsimp -implicitDefEqProofs only [go_sem, simprocAttr] at el11_); (try simp -dsimp -implicitDefEqProofs only [go_sem, *, simprocAttr]); refine zai (I.1 _ _ ?_ ?_ ?_ ?_ _ _ hK); (iterate 4 (simp -dsimp -implicitDefEqProofs only [go_sem, *, simprocAttr]))) | ((try simp -dsimp -implicitDefEqProofs only [go_sem, *, simprocAttr]); refine zai (I.1 _ _ ?_ ?_ ?_ ?_ _ _ hK); (iterate 4 (simp -dsimp -implicitDefEqProofs only [go_sem, *, simprocAttr]))) | ((try simp -dsimp -implicitDefEqProofs only [go_sem, *, simprocAttr]); simp only [zfs] at hK; refine hK _ _ ?_; simp -dsimp -implicitDefEqProofs only [go_sem, *, simprocAttr])
theorem zrC {kk : Nat} {a : (Sl Val)} {r : (Sl Int)} (h : zfL kk a = some r) : Ev cfg 23 [(dSl zfR a)] (dSl (cI .u8) r) := by
 unfold zfL at h
 have E := evT
 obtain ⟨r1, h13_, h⟩ := zaa h
 have E := E.and (zsr h13_)
 rcases zae h with ⟨h14_, h⟩ | ⟨h14_, h⟩
 have b15_ := zar h14_
 rotate_left
 have b16_ := zan h14_
 obtain ⟨_, h17_, h⟩ := zaa h
 obtain ⟨_, l18_, E⟩ := E.lj (zpP (IntKind.wrap .u64 (a.l.length : Int)) (zah h17_))
 rcases zbj h with ⟨r21_, o20_, h⟩ | ⟨q13, o20_, h⟩
 obtain ⟨_, l19_, E⟩ := E.lp (zjE o20_)
 rotate_left
 obtain ⟨_, l22_, E⟩ := E.lp (zjE o20_)
 rotate_left
 all_goals
  obtain rfl := Option.some.inj h
  refine E.s fun n x => ?_
  first | (have := l18_; obtain ⟨_, el18_⟩ := l18_.1 n (by omega); (try simp -dsimp -implicitDefEqProofs only [go_sem, simprocAttr] at el18_); (first | (have := l19_; simp -dsimp -implicitDefEqProofs only [go_sem, func23, f23, *, simprocAttr]; refine zai (l19_.1 n (by omega) _ _ ?_ ?_ ?_ ?_ _ _ ?_); (iterate 4 (simp -dsimp -implicitDefEqProofs only [go_sem, *, simprocAttr])); simp only [zfs]; intro e m i0; rcases zxa i0 with _ | ⟨lr0, _, _, _, _⟩ <;> (simp -dsimp -implicitDefEqProofs only [go_sem, func23, f23, *, simprocAttr])) | (have := l22_; simp -dsimp -implicitDefEqProofs only [go_sem, func23, f23, *, simprocAttr]; refine zai (l22_.1 n (by omega) _ _ ?_ ?_ ?_ ?_ _ _ ?_); (iterate 4 (simp -dsimp -implicitDefEqProofs only [go_sem, *, simprocAttr])); simp only [zfs]; intro e m i0; obtain ⟨_, _, _⟩ := i0; simp -dsimp -implicitDefEqProofs only [go_sem, func23, f23, *, simprocAttr]))) | (simp -dsimp -implicitDefEqProofs only [go_sem, func23, f23, *, simprocAttr])
def zgR (c1 : Sl Int) (K : Ex → St → Option Res) (R : Option Res) : Out (Int × Int × Int) (Int × Int) → Prop
 | .ret r => ∀ (e : Env) (m : Mem), e 2 = (.int .u64 r.1) → e 3 = (.int .i64 r.2.1) → e 4 = (.int .i64 r.2.2) → K .ret ⟨e, m⟩ = R
 | .done q => ∀ (e : Env) (m : Mem), K (.exit 0) ⟨e, m⟩ = R
noncomputable def ztW : Code := zb4 f55 [1, 1, 0, 1, 0, 0]
theorem zog {c1 : Sl Int} {kk : Nat} : ∀ {k : Nat} {s2 : Int} {s3 : Int} {out : Out (Int × Int × Int) (Int × Int)}, zgr c1 kk k s2 s3 = some out → ∃ N, ∀ n, N ≤ n → ∀ k, N ≤ k → ∀ (e : Env) (m : Mem), e 0 = (dSl (cI .u8) c1) → e 5 = (.int .u64 s2) → e 6 = (.int .i64 s3) → ∀ (K : Ex → St → Option Res) (R : Option Res), zgR c1 K R out → zc0 (zbX cfg (dfn cfg n) n ztW) K k ⟨e, m⟩ = R := by
 intro k
 induction k with
 | zero => intro s2 s3 out h; cases h
 | succ k ih => ?_
 intro s2 s3 out h
 have ih := fun x0 x1 {out} => @ih x0 x1 out
 unfold zgr at h
 have E := evT
 rcases zae h with ⟨h1_, h⟩ | ⟨h1_, h⟩
 obtain ⟨b2_, b3_⟩ := zcK h1_
 obtain ⟨y4, h4_, h⟩ := zaa h
 obtain ⟨_, h5_⟩ := zbK h4_
 have h5_ := zbs h5_ (cI .u8)
 rcases zae h with ⟨h6_, h⟩ | ⟨h6_, h⟩
 obtain ⟨b7_, b8_⟩ := zcK h6_
 rotate_left
 rcases zcd h6_ with b9_ | ⟨b9_, b10_⟩
 obtain ⟨_, h11_, h⟩ := zaa h
 have h11_ := zah h11_
 try simp -dsimp -implicitDefEqProofs only [go_sem, simprocAttr] at h11_
 rcases zae h with ⟨h12_, h⟩ | ⟨h12_, h⟩
 rcases zae h with ⟨h13_, h⟩ | ⟨h13_, h⟩
 obtain ⟨b14_, b15_⟩ := zcK h13_
 rotate_left
 rcases zcd h13_ with b16_ | ⟨b16_, b17_⟩
 rotate_left
 rotate_left
 rotate_left
 obtain ⟨_, h18_, h⟩ := zaa h
 have h18_ := zah h18_
 try simp -dsimp -implicitDefEqProofs only [go_sem, simprocAttr] at h18_
 rcases zae h with ⟨h19_, h⟩ | ⟨h19_, h⟩
 rcases zae h with ⟨h20_, h⟩ | ⟨h20_, h⟩
 obtain ⟨b21_, b22_⟩ := zcK h20_
 rotate_left
 rcases zcd h20_ with b23_ | ⟨b23_, b24_⟩
 rotate_left
 rotate_left
 rotate_left
 rcases zcd h1_ with b25_ | ⟨b25_, b26_⟩
 rotate_left
 rotate_left
 all_goals
  first | (obtain rfl := Option.some.inj h; refine E.l fun n k x => ?_) | refine E.c (ih _ _ h) fun n k x I => ?_
  intro e m i0 i1 i2 K R hK
  rw [zaB]
  (conv => lhs; arg 4; whnf)
  first | (simp -dsimp -implicitDefEqProofs only [go_sem, *, simprocAttr]; simp only [zgR] at hK; refine hK _ _) | (simp -dsimp -implicitDefEqProofs only [go_sem, *, simprocAttr]; simp only [zgR] at hK; refine hK _ _ ?_ ?_ ?_; (iterate 3 (simp -dsimp -implicitDefEqProofs only [go_sem, *, simprocAttr]))) | (simp -dsimp -implicitDefEqProofs only [go_sem, *, simprocAttr]; refine zai (I.1 _ _ ?_ ?_ ?_ _ _ hK); (iterate 3 (simp -dsimp -implicitDefEqProofs only [go_sem, *, simprocAttr])))
theorem zoe {kk : Nat} {a : (Sl Int)} {r : Int × Int × Int} (h : zgU kk a = some r) : Ev cfg 55 [(dSl (cI .u8) a)] (.tup [(.int .u64 r.1), (.int .i64 r.2.1), (.int .i64 r.2.2)]) := by
 unfold zgU at h
 have E := evT
 rcases zbj h with ⟨r29_, o28_, h⟩ | ⟨q6, o28_, h⟩
 obtain ⟨_, l27_, E⟩ := E.lp (zog o28_)
 rotate_left
 obtain ⟨_, l30_, E⟩ := E.lp (zog o28_)
 rotate_left
 all_goals
  obtain rfl := Option.some.inj h
  refine E.s fun n x => ?_
  first | (have := l27_; simp -dsimp -implicitDefEqProofs only [go_sem, func55, f55, *, simprocAttr]; refine zai (l27_.1 n (by omega) _ _ ?_ ?_ ?_ _ _ ?_); (iterate 3 (simp -dsimp -implicitDefEqProofs only [go_sem, *, simprocAttr])); simp only [zgR]; intro e m i0 i1 i2; simp -dsimp -implicitDefEqProofs only [go_sem, func55, f55, *, simprocAttr]) | (have := l30_; simp -dsimp -implicitDefEqProofs only [go_sem, func55, f55, *, simprocAttr]; refine zai (l30_.1 n (by omega) _ _ ?_ ?_ ?_ _ _ ?_); (iterate 3 (simp -dsimp -implicitDefEqProofs only [go_sem, *, simprocAttr])); simp only [zgR]; intro e m; simp -dsimp -implicitDefEqProofs only [go_sem, func55, f55, *, simprocAttr])
theorem zlw {kk : Nat} {a : (Sl Int)} {r : Str × Int × Int} (h : zfh kk a = some r) : Ev cfg 29 [(dSl (cI .u8) a)] (.tup [(.str r.1), (.int .i64 r.2.1), (.int .i64 r.2.2)]) := by
 unfold zfh at h
 have E := evT
 obtain ⟨r1, h1_, h⟩ := zaa h
 have E := E.and (zoe h1_)
 rcases zae h with ⟨h2_, h⟩ | ⟨h2_, h⟩
 rcases zeP h2_ with b3_ | ⟨b3_, b4_⟩
 rotate_left
 rotate_left
 obtain ⟨b5_, b6_⟩ := zca h2_
 obtain ⟨y2, h7_, h⟩ := zaa h
 have h7_ : zeC prog (some (.int .i64 r1.2.1)) (some (.int .i64 (IntKind.wrap .i64 (r1.2.1 + (IntKind.wrap .i64 r1.1))))) none (dSl (cI .u8) a) (.slice 5) = pure (dSl (cI .u8) y2) := zk7 h7_ ti5 (fun _ => rfl)
 rotate_left
 all_goals
  obtain rfl := Option.some.inj h
  refine E.s fun n x => ?_
  simp -dsimp -implicitDefEqProofs only [go_sem, func29, f29, *, simprocAttr]
theorem zsp {kk : Nat} {a : Int} {r : Int} (h : zgn kk a = some r) : Ev cfg 105 [(.int .u64 a)] (.int .i64 r) := by
 unfold zgn at h
 have E := evT
 obtain rfl := Option.some.inj h
 refine E.s fun n x => ?_
 simp -dsimp -implicitDefEqProofs only [go_sem, func105, f105, *, simprocAttr]
theorem zsq {kk : Nat} {a : (Sl Int)} {r : Val × (Sl Int) × Bool} (h : zgo kk a = some r) : Ev cfg 56 [(dSl (cI .u8) a)] (.tup [(.agg (zfR r.1)), (dSl (cI .u8) r.2.1), (.bool r.2.2)]) := by
 unfold zgo at h
 have E := evT
 rcases zae h with ⟨h1_, h⟩ | ⟨h1_, h⟩
 rotate_left
 obtain ⟨y1, h2_, h⟩ := zaa h
 have h2_ := zbs h2_ (cI .u8)
 obtain ⟨y2, h3_, h⟩ := zaa h
 have h3_ : zeC prog (some (.int .i64 1)) none none (dSl (cI .u8) a) (.slice 5) = pure (dSl (cI .u8) y2) := zk7 h3_ ti5 (fun _ => rfl)
 rcases zae h with ⟨h4_, h⟩ | ⟨h4_, h⟩
 obtain ⟨r3, h5_, h⟩ := zaa h
 have E := E.and (zoe h5_)
 obtain ⟨r4, h6_, h⟩ := zaa h
 have E := E.and (zsp h6_)
 obtain ⟨y5, h7_, h⟩ := zaa h
 have h7_ : zeC prog (some (.int .i64 r3.2.1)) none none (dSl (cI .u8) y2) (.slice 5) = pure (dSl (cI .u8) y5) := zk7 h7_ ti5 (fun _ => rfl)
 rotate_left
 rcases zae h with ⟨h8_, h⟩ | ⟨h8_, h⟩
 obtain ⟨r6, h9_, h⟩ := zaa h
 have E := E.and (zlw h9_)
 obtain ⟨y7, h10_, h⟩ := zaa h
 have h10_ : zeC prog (some (.int .i64 r6.2.1)) none none (dSl (cI .u8) y2) (.slice 5) = pure (dSl (cI .u8) y7) := zk7 h10_ ti5 (fun _ => rfl)
 rotate_left
 rcases zae h with ⟨h11_, h⟩ | ⟨h11_, h⟩
 rcases zae h with ⟨h12_, h⟩ | ⟨h12_, h⟩
 obtain ⟨y8, h13_, h⟩ := zaa h
 have h13_ := zbs h13_ (cI .u8)
 obtain ⟨y9, h14_, h⟩ := zaa h
 have h14_ : zeC prog (some (.int .i64 1)) none none (dSl (cI .u8) y2) (.slice 5) = pure (dSl (cI .u8) y9) := zk7 h14_ ti5 (fun _ => rfl)
 rotate_left
 rotate_left
 rotate_left
 all_goals
  obtain rfl := Option.some.inj h
  refine E.s fun n x => ?_
  simp -dsimp -implicitDefEqProofs only [go_sem, func56, f56, *, simprocAttr]
def zeb (K : Ex → St → Option Res) (R : Option Res) : Out ((Sl Val) × Int) (Sl Int × Int × List Val) → Prop
 | .ret r => ∀ (e : Env) (m : Mem), zwq (e 2) m [42] 3 zfR r.1 → e 3 = (.int .i64 r.2) → K .ret ⟨e, m⟩ = R
 | .done q => ∀ (e : Env) (m : Mem), e 0 = (dSl (cI .u8) q.1) → zoU (e 7) m [42] 3 zfR q.2.2 → K (.exit 0) ⟨e, m⟩ = R
noncomputable def zo8 : Code := zb4 f30 [1, 1, 1, 1, 1, 0, 0, 0]
theorem zjF {kk : Nat} : ∀ {k : Nat} {s3 : Sl Int} {s4 : Int} {s5 : List Val} {out : Out ((Sl Val) × Int) (Sl Int × Int × List Val)}, zcF kk k s3 s4 s5 = some out → ∃ N, ∀ n, N ≤ n → ∀ k, N ≤ k → ∀ (e : Env) (m : Mem), e 0 = (dSl (cI .u8) s3) → e 4 = (.int .u64 s4) → zoU (e 7) m [42] 3 zfR s5 → ∀ (K : Ex → St → Option Res) (R : Option Res), zeb K R out → zc0 (zbX cfg (dfn cfg n) n zo8) K k ⟨e, m⟩ = R := by
 intro k
 induction k with
 | zero => intro s3 s4 s5 out h; cases h
 | succ k ih => ?_
 intro s3 s4 s5 out h
 have ih := fun x0 x1 x2 {out} => @ih x0 x1 x2 out
 unfold zcF at h
 have E := evT
 rcases zae h with ⟨h1_, h⟩ | ⟨h1_, h⟩
 obtain ⟨r6, h2_, h⟩ := zaa h
 have E := E.and (zsq h2_)
 have E := E.and (zhk r6.1)
 rcases zae h with ⟨h3_, h⟩ | ⟨h3_, h⟩
 rcases zeP h3_ with b4_ | ⟨b4_, b5_⟩
 have b6_ := zar b4_
 rotate_left
 have b7_ := zan b4_
 have b8_ := zar b5_
 rotate_left
 obtain ⟨b9_, b10_⟩ := zca h3_
 have b11_ := zan b9_
 have b12_ := zan b10_
 obtain ⟨_, h13_, h⟩ := zaa h
 have h13_ := zah h13_
 try simp -dsimp -implicitDefEqProofs only [go_sem, simprocAttr] at h13_
 rotate_left
 rotate_left
 all_goals
  first | (obtain rfl := Option.some.inj h; refine E.l fun n k x => ?_) | refine E.c (ih _ _ _ h) fun n k x I => ?_
  intro e m i0 i1 i2 K R hK
  rcases znY i2 with ⟨_, _⟩ | ⟨_, _, _, _⟩ <;> (rw [zaB]; (conv => lhs; arg 4; whnf); (first | (simp -dsimp -implicitDefEqProofs only [go_sem, *, simprocAttr]; simp only [zeb] at hK; refine hK _ _ ?_ ?_; (iterate 2 (simp -dsimp -implicitDefEqProofs only [go_sem, *, simprocAttr]))) | (simp -dsimp -implicitDefEqProofs only [go_sem, *, simprocAttr]; refine zai (I.1 _ _ ?_ ?_ ?_ _ _ hK); (iterate 3 (simp -dsimp -implicitDefEqProofs only [go_sem, *, simprocAttr]))) | (simp -dsimp -implicitDefEqProofs only [go_sem, *, simprocAttr]; simp only [zeb] at hK; refine hK _ _ ?_ ?_; (iterate 2 (simp -dsimp -implicitDefEqProofs only [go_sem, *, simprocAttr])))))
theorem zrD {kk : Nat} {a : (Sl Int)} {r : (Sl Val) × Int} (h : zfM kk a = some r) : Ev cfg 30 [(dSl (cI .u8) a)] (.tup [(dSl zfR r.1), (.int .i64 r.2)]) := by
 unfold zfM at h
 have E := evT
 obtain ⟨r1, h14_, h⟩ := zaa h
 have E := E.and (zoe h14_)
 rcases zae h with ⟨h15_, h⟩ | ⟨h15_, h⟩
 rotate_left
 obtain ⟨y2, h16_, h⟩ := zaa h
 have h16_ : zeC prog (some (.int .i64 r1.2.1)) none none (dSl (cI .u8) a) (.slice 5) = pure (dSl (cI .u8) y2) := zk7 h16_ ti5 (fun _ => rfl)
 rcases zbj h with ⟨r19_, o18_, h⟩ | ⟨q8, o18_, h⟩
 obtain ⟨_, l17_, E⟩ := E.lp (zjF o18_)
 rotate_left
 obtain ⟨_, l20_, E⟩ := E.lp (zjF o18_)
 rcases zae h with ⟨h21_, h⟩ | ⟨h21_, h⟩
 rotate_left
 rotate_left
 all_goals
  obtain rfl := Option.some.inj h
  refine E.s fun n x => ?_
  first | (have := l17_; simp -dsimp -implicitDefEqProofs only [go_sem, func30, f30, *, simprocAttr]; refine zai (l17_.1 n (by omega) _ _ ?_ ?_ ?_ _ _ ?_); (iterate 3 (simp -dsimp -implicitDefEqProofs only [go_sem, *, simprocAttr])); simp only [zeb]; intro e m i0 i1; rcases zxa i0 with _ | ⟨lr0, _, _, _, _⟩ <;> (simp -dsimp -implicitDefEqProofs only [go_sem, func30, f30, *, simprocAttr])) | (have := l20_; simp -dsimp -implicitDefEqProofs only [go_sem, func30, f30, *, simprocAttr]; refine zai (l20_.1 n (by omega) _ _ ?_ ?_ ?_ _ _ ?_); (iterate 3 (simp -dsimp -implicitDefEqProofs only [go_sem, *, simprocAttr])); simp only [zeb]; intro e m i0 i1; rcases znY i1 with ⟨_, _⟩ | ⟨_, _, _, _⟩ <;> (simp -dsimp -implicitDefEqProofs only [go_sem, func30, f30, *, simprocAttr])) | (simp -dsimp -implicitDefEqProofs only [go_sem, func30, f30, *, simprocAttr])
theorem zso {kk : Nat} {a : Val} {r : Bool} (h : zhE kk a = some r) : Ev cfg 18 [(.agg (zfR a))] (.bool r) := by
 unfold zhE at h
 have E := evT
 have E := E.and (zhk a)
 obtain rfl := Option.some.inj h
 refine E.s fun n x => ?_
 simp -dsimp -implicitDefEqProofs only [go_sem, func18, f18, *, simprocAttr]
def zbc (c1 : Sl Val) (c2 : Int) (K : Ex → St → Option Res) (R : Option Res) : Out (Int) (Int) → Prop
 | .ret r => ∀ (e : Env) (m : Mem), e 4 = (.int .i64 r) → K .ret ⟨e, m⟩ = R
 | .done q => ∀ (e : Env) (m : Mem), K (.exit 0) ⟨e, m⟩ = R
noncomputable def zfO : Code := zb4 f41 [1, 0, 1, 0, 0]
theorem zcL {c1 : Sl Val} {c2 : Int} {kk : Nat} : ∀ {k : Nat} {s3 : Int} {out : Out (Int) (Int)}, zaW c1 c2 kk k s3 = some out → ∃ N, ∀ n, N ≤ n → ∀ k, N ≤ k → ∀ (e : Env) (m : Mem), e 0 = (dSl zfR c1) → e 1 = (.fn (.func 18) [] []) → e 7 = (.int .i64 c2) → e 8 = (.int .i64 s3) → ∀ (K : Ex → St → Option Res) (R : Option Res), zbc c1 c2 K R out → zc0 (zbX cfg (dfn cfg n) n zfO) K k ⟨e, m⟩ = R := by
 intro k
 induction k with
 | zero => intro s3 out h; cases h
 | succ k ih => ?_
 intro s3 out h
 have ih := fun x0 {out} => @ih x0 out
 unfold zaW at h
 have E := evT
 rcases zae h with ⟨h1_, h⟩ | ⟨h1_, h⟩
 obtain ⟨y4, h2_, h⟩ := zaa h
 obtain ⟨_, h3_⟩ := zbK h2_
 have h3_ := zbs h3_ zfR
 obtain ⟨r5, h4_, h⟩ := zaa h
 have E := E.and (zso h4_)
 rcases zae h with ⟨h5_, h⟩ | ⟨h5_, h⟩
 rotate_left
 rotate_left
 rotate_left
 all_goals
  first | (obtain rfl := Option.some.inj h; refine E.l fun n k x => ?_) | refine E.c (ih _ h) fun n k x I => ?_
  intro e m i0 i1 i2 i3 K R hK
  rw [zaB]
  (conv => lhs; arg 4; whnf)
  first | (simp -dsimp -implicitDefEqProofs only [go_sem, *, simprocAttr]; simp only [zbc] at hK; refine hK _ _ ?_; simp -dsimp -implicitDefEqProofs only [go_sem, *, simprocAttr]) | (simp -dsimp -implicitDefEqProofs only [go_sem, *, simprocAttr]; refine zai (I.1 _ _ ?_ ?_ ?_ ?_ _ _ hK); (iterate 4 (simp -dsimp -implicitDefEqProofs only [go_sem, *, simprocAttr]))) | (simp -dsimp -implicitDefEqProofs only [go_sem, *, simprocAttr]; simp only [zbc] at hK; refine hK _ _)
theorem zgk {kk : Nat} {a : (Sl Val)} {r : Int} (h : zbD kk a = some r) : Ev cfg 41 [(dSl zfR a), (.fn (.func 18) [] [])] (.int .i64 r) := by
 unfold zbD at h
 have E := evT
 rcases zbj h with ⟨r8_, o7_, h⟩ | ⟨q6, o7_, h⟩
 obtain ⟨_, l6_, E⟩ := E.lp (zcL o7_)
 rotate_left
 obtain ⟨_, l9_, E⟩ := E.lp (zcL o7_)
 rotate_left
 all_goals
  obtain rfl := Option.some.inj h
  refine E.s fun n x => ?_
  first | (have := l6_; simp -dsimp -implicitDefEqProofs only [go_sem, func41, f41, *, simprocAttr]; refine zai (l6_.1 n (by omega) _ _ ?_ ?_ ?_ ?_ _ _ ?_); (iterate 4 (simp -dsimp -implicitDefEqProofs only [go_sem, *, simprocAttr])); simp only [zbc]; intro e m i0; simp -dsimp -implicitDefEqProofs only [go_sem, func41, f41, *, simprocAttr]) | (have := l9_; simp -dsimp -implicitDefEqProofs only [go_sem, func41, f41, *, simprocAttr]; refine zai (l9_.1 n (by omega) _ _ ?_ ?_ ?_ ?_ _ _ ?_); (iterate 4 (simp -dsimp -implicitDefEqProofs only [go_sem, *, simprocAttr])); simp only [zbc]; intro e m; simp -dsimp -implicitDefEqProofs only [go_sem, func41, f41, *, simprocAttr])
theorem zfI {kk : Nat} {a : (Sl Val)} {r : Bool} (h : zbu kk a = some r) : Ev cfg 20 [(dSl zfR a), (.fn (.func 18) [] [])] (.bool r) := by
 unfold zbu at h
 have E := evT
 obtain ⟨r1, h1_, h⟩ := zaa h
 have E := E.and (zgk h1_)
 obtain rfl := Option.some.inj h
 refine E.s fun n x => ?_
 simp -dsimp -implicitDefEqProofs only [go_sem, func20, f20, *, simprocAttr]
def zhd (c1 : zhF) (K : Ex → St → Option Res) (R : Option Res) (q : Bool) : Prop := ∀ (e : Env) (m : Mem), zcS (e 1) m 1 2 (zjZ c1) → e 15 = (.bool (q)) → K .normal ⟨e, m⟩ = R
noncomputable def zmi : Code := zb4 f7 [1, 1, 0, 0]
theorem zrI {c1 : zhF} {kk : Nat} {out : Bool} (h : zgm c1 kk = some out) : ∃ N, ∀ n, N ≤ n → ∀ (e : Env) (m : Mem), zcS (e 1) m 1 2 (zjZ c1) → e 4 = (.fn (.func 18) [] []) → ∀ (K : Ex → St → Option Res) (R : Option Res), zhd c1 K R out → zbX cfg (dfn cfg n) n zmi K ⟨e, m⟩ = R := by
 unfold zgm at h
 have E := evT
 obtain ⟨r2, h1_, h⟩ := zaa h
 have E := E.and (zfI h1_)
 rcases zae h with ⟨h2_, h⟩ | ⟨h2_, h⟩
 have b3_ := zar h2_
 obtain ⟨_, h4_, h⟩ := zaa h
 have E := E.and (zis c1.ann (zah h4_))
 rotate_left
 have b5_ := zan h2_
 rotate_left
 all_goals
  obtain rfl := Option.some.inj h
  refine E.j fun n x => ?_
  intro e m i0 i1 K R hK
  obtain ⟨_, _, _⟩ := i0
  (conv => lhs; arg 4; whnf)
  simp -dsimp -implicitDefEqProofs only [go_sem, *, simprocAttr]
  simp only [zhd] at hK
  refine hK _ _ ?_ ?_
  (iterate 2 (simp -dsimp -implicitDefEqProofs only [go_sem, *, simprocAttr]))
theorem zuo {kk : Nat} {a : zhF} {r : (Sl Int) × Int} (h : zhy kk a = some r) : Ev cfg 7 [(.agg (zjZ a))] (.tup [(dSl (cI .u8) r.1), (.int .i64 r.2)]) := by
 unfold zhy at h
 have E := evT
 obtain ⟨q4, o7_, h⟩ := zaa h
 obtain ⟨_, l6_, E⟩ := E.lj (zrI o7_)
 rcases zae h with ⟨h9_, h⟩ | ⟨h9_, h⟩
 rotate_left
 obtain ⟨r5, h10_, h⟩ := zaa h
 have E := E.and (zrC h10_)
 obtain ⟨_, h11_, h⟩ := zaa h
 obtain ⟨_, l12_, E⟩ := E.lj (zoj (b2s r5.l) (zah h11_))
 obtain ⟨_, h13_, h⟩ := zaa h
 have E := E.and (zpV a.ann (zah h13_))
 obtain ⟨_, h14_, h⟩ := zaa h
 obtain ⟨_, l15_, E⟩ := E.lj (zjg (zyq [] (b2s r5.l)) (znm a.ann) (zah h14_))
 rotate_left
 all_goals
  obtain rfl := Option.some.inj h
  refine E.s fun n x => ?_
  have j0 := zgq cfg (dfn cfg n) n zmi
  (conv at j0 => intro k s; lhs; arg 4; whnf)
  first | (have := l12_; obtain ⟨_, el12_⟩ := l12_.1 n (by omega); (try simp -dsimp -implicitDefEqProofs only [go_sem, simprocAttr] at el12_); obtain ⟨_, el15_⟩ := l15_.1 n (by omega); (try simp -dsimp -implicitDefEqProofs only [go_sem, simprocAttr] at el15_); simp -dsimp -implicitDefEqProofs only [go_sem, ↓j0, func7, f7, *, simprocAttr]; refine zg5 (l6_.1 n (by omega) _ _ ?_ ?_ _ _ ?_); (iterate 2 (simp -dsimp -implicitDefEqProofs only [go_sem, *, simprocAttr])); simp only [zhd]; intro e m i0 i1; obtain ⟨_, _, _⟩ := i0; simp -dsimp -implicitDefEqProofs only [go_sem, ↓j0, func7, f7, *, simprocAttr]) | (have := l6_; simp -dsimp -implicitDefEqProofs only [go_sem, ↓j0, func7, f7, *, simprocAttr]; refine zg5 (l6_.1 n (by omega) _ _ ?_ ?_ _ _ ?_); (iterate 2 (simp -dsimp -implicitDefEqProofs only [go_sem, *, simprocAttr])); simp only [zhd]; intro e m i0 i1; obtain ⟨_, _, _⟩ := i0; simp -dsimp -implicitDefEqProofs only [go_sem, ↓j0, func7, f7, *, simprocAttr])
theorem zup {kk : Nat} {a : (Sl Int)} {r : zhF × Int × Int} (h : zhz kk a = some r) : Ev cfg 9 [(dSl (cI .u8) a)] (.tup [(.agg (zjZ r.1)), (.int .i64 r.2.1), (.int .i64 r.2.2)]) := by
 unfold zhz at h
 have E := evT
 obtain ⟨r1, h1_, h⟩ := zaa h
 have E := E.and (zlw h1_)
 rcases zae h with ⟨h2_, h⟩ | ⟨h2_, h⟩
 rotate_left
 obtain ⟨r2, h3_, h⟩ := zaa h
 have E := E.and (zrD h3_)
 rcases zae h with ⟨h4_, h⟩ | ⟨h4_, h⟩
 rotate_left
 obtain ⟨y3, h5_, h⟩ := zaa h
 have h5_ : zeC prog (some (.int .i64 r1.2.1)) none none (dSl (cI .u8) a) (.slice 5) = pure (dSl (cI .u8) y3) := zk7 h5_ ti5 (fun _ => rfl)
 obtain ⟨r4, h6_, h⟩ := zaa h
 have E := E.and (zlw h6_)
 rcases zae h with ⟨h7_, h⟩ | ⟨h7_, h⟩
 rotate_left
 obtain ⟨_, h8_, h⟩ := zaa h
 have E := E.and (zqU r4.1 (zah h8_))
 rcases zae h with ⟨h9_, h⟩ | ⟨h9_, h⟩
 rotate_left
 rotate_left
 all_goals
  obtain rfl := Option.some.inj h
  refine E.s fun n x => ?_
  (try simp -dsimp -implicitDefEqProofs only [go_sem, simprocAttr] at x)
  simp -dsimp -implicitDefEqProofs only [go_sem, func9, f9, *, simprocAttr]
theorem zod {kk : Nat} {a : (Sl Int)} {r : Bool} (h : ze8 kk a = some r) : Ev cfg 4 [(dSl (cI .u8) a)] (.bool r) := by
 unfold ze8 at h
 have E := evT
 have e1_ : ztc [] = some (.bool ((zDA))) := zAG
 rcases zae h with ⟨h2_, h⟩ | ⟨h2_, h⟩
 have b3_ := zar h2_
 rotate_left
 have b4_ := zan h2_
 rcases zae h with ⟨h5_, h⟩ | ⟨h5_, h⟩
 rotate_left
 obtain ⟨r1, h6_, h⟩ := zaa h
 have E := E.and (zup h6_)
 rcases zae h with ⟨h7_, h⟩ | ⟨h7_, h⟩
 rcases Bool.eq_false_or_eq_true ((r1.2.2 == 12)) with h8_ | h8_
 rcases Bool.eq_false_or_eq_true ((r1.2.1 == 0)) with h9_ | h9_
 rcases Bool.eq_false_or_eq_true (((r1.1.values.l.length : Int) == 0)) with h10_ | h10_
 rotate_left
 rotate_left
 rotate_left
 rotate_left
 obtain ⟨r2, h11_, h⟩ := zaa h
 have E := E.and (zuo h11_)
 rcases zae h with ⟨h12_, h⟩ | ⟨h12_, h⟩
 obtain ⟨b13_, b14_⟩ := zcK h12_
 obtain ⟨b15_, b16_⟩ := zcK b13_
 obtain ⟨y3, h17_, h⟩ := zaa h
 have h17_ : zeC prog none (some (.int .i64 r1.2.1)) none (dSl (cI .u8) a) (.slice 5) = pure (dSl (cI .u8) y3) := zk7 h17_ ti5 (fun _ => rfl)
 rotate_left
 rcases zcd h12_ with b18_ | ⟨b18_, b19_⟩
 rcases zcd b18_ with b20_ | ⟨b20_, b21_⟩
 rotate_left
 rotate_left
 obtain ⟨b22_, b23_⟩ := zcK b18_
 rotate_left
 all_goals
  obtain rfl := Option.some.inj h
  refine E.s fun n x => ?_
  simp -dsimp -implicitDefEqProofs only [go_sem, func4, f4, *, simprocAttr]
theorem zop (a : (Sl Int)) (h : okD a) : Ev cfg 4 [(dSl (cI .u8) a)] (.bool (zye a)) := zod (zmd (kk := big) a h)
end Go.Proofs.Tryz
