/- Part of a proof. -/
import Derived.Test.YtaadpbhondmahaaGreatDoorT9
import Derived.Test.YtaadpbhondmahaaGreatDoorT10
set_option linter.all false
set_option maxRecDepth 100000
set_option maxHeartbeats 4000000
namespace Go.Proofs.Tryz
open Go.Ev
attribute [go_sem] func106 f106 func145 f145 func146 f146 func171 f171 func173 f173 func174 f174 func189 f189 func192 f192 func197 f197 func209 f209 func210 f210 func211 f211 func213 f213 func214 f214 func223 f223 func226 f226 func234 f234 func236 f236 func240 f240
theorem zoU {kk : Nat} {a b : Str} {r : Bool} (h : zen kk a b = some r) : Ev cfg 189 [(.str a), (.str b)] (.bool r) := by
 unfold zen at h
 have E := evT
 rcases zac h with ⟨h1_, h⟩ | ⟨h1_, h⟩
 obtain ⟨y1, h2_, h⟩ := zaa h
 have h2_ : zfr prog none (some (.int .i64 (b.length : Int))) none (.str a) .str = pure (.str y1) := zlr h2_ prog
 all_goals
  cases h
  refine E.s fun n x => ?_
  exact zs
theorem zgP (a b : Str) : Ev cfg 189 [(.str a), (.str b)] (.bool (zk2 a b)) := zoU (zmU 0 a b)
theorem zuT {kk : Nat} {a b : Str} {r : Bool} (h : zjX kk a b = some r) : Ev cfg 213 [(.str a), (.str b)] (.bool r) := by
 unfold zjX at h
 have E := evT
 have E := E.and (zgP a b)
 cases h
 refine E.s fun n x => ?_
 exact zs
theorem znO (a b : Str) : Ev cfg 213 [(.str a), (.str b)] (.bool (zk2 a b)) := zuT (zrM 0 a b)
theorem zoV {kk : Nat} {a b : Str} {r : Str × Bool} (h : zeo kk a b = some r) : Ev cfg 171 [(.str a), (.str b)] (.tup [(.str r.1), (.bool r.2)]) := by
 unfold zeo at h
 have E := evT
 have E := E.and (zgP a b)
 rcases zac h with ⟨h1_, h⟩ | ⟨h1_, h⟩
 have b2_ := zan h1_
 rotate_left
 have b3_ := zal h1_
 obtain ⟨y1, h4_, h⟩ := zaa h
 have h4_ : zfr prog (some (.int .i64 (b.length : Int))) none none (.str a) .str = pure (.str y1) := zlr h4_ prog
 all_goals
  cases h
  refine E.s fun n x => ?_
  exact zs
theorem zpd (a b : Str) : Ev cfg 171 [(.str a), (.str b)] (.tup [(.str ((zho a b).1)), (.bool ((zho a b).2))]) := zoV (zmV 0 a b)
theorem zuU {kk : Nat} {a b : Str} {r : Str × Bool} (h : zjY kk a b = some r) : Ev cfg 145 [(.str a), (.str b)] (.tup [(.str r.1), (.bool r.2)]) := by
 unfold zjY at h
 have E := evT
 have E := E.and (zpd a b)
 cases h
 refine E.s fun n x => ?_
 exact zs
theorem znP (a b : Str) : Ev cfg 145 [(.str a), (.str b)] (.tup [(.str ((zho a b).1)), (.bool ((zho a b).2))]) := zuU (zrN 0 a b)
theorem znU {kk : Nat} {a b r : Str} (h : zdT kk a b = some r) : Ev cfg 240 [(.str a), (.str b)] (.str r) := by
 unfold zdT at h
 have E := evT
 have E := E.and (zgP a b)
 rcases zac h with ⟨h1_, h⟩ | ⟨h1_, h⟩
 obtain ⟨y1, h2_, h⟩ := zaa h
 have h2_ : zfr prog (some (.int .i64 (b.length : Int))) none none (.str a) .str = pure (.str y1) := zlr h2_ prog
 all_goals
  cases h
  refine E.s fun n x => ?_
  exact zs
theorem zn6 (a b : Str) : Ev cfg 240 [(.str a), (.str b)] (.str (zla a b)) := znU (zme 0 a b)
theorem ztE {kk : Nat} {a b r : Str} (h : zjm kk a b = some r) : Ev cfg 236 [(.str a), (.str b)] (.str r) := by
 unfold zjm at h
 have E := evT
 have E := E.and (zn6 a b)
 cases h
 refine E.s fun n x => ?_
 exact zs
theorem ztW (a b : Str) : Ev cfg 236 [(.str a), (.str b)] (.str (zla a b)) := ztE (zq0 0 a b)
def zfA (c5 c6 : Str) (c7 c8 : Int) (c10 c12 : Str) (K : YK) (R : YL) : Out (Str) (Bool × Nat × Nat) -> Prop
 | .ret r => ∀ (e : Env) (m : Mem), e 4 = (.str r) -> K .ret ⟨e, m⟩ = R
 | .done q => ∀ (e : Env) (m : Mem), e 0 = (.str c5) -> e 1 = (.str c6) -> e 5 = (.int .i64 c7) -> e 7 = (.bool (q.1)) -> zA4 (e 11) m 11 c10 q.2.1 -> K (.exit 2) ⟨e, m⟩ = R
noncomputable def zrj : Code := za4 f192 [1, 0, 1, 0, 0, 1, 1, 0, 1, 1, 0, 1, 0, 0]
theorem zkC {c5 c6 : Str} {c7 c8 : Int} {c10 c12 : Str} {kk : Nat} : ∀ {k : Nat} {s9 : Bool} {s11 s13 : Nat} {out : Out (Str) (Bool × Nat × Nat)}, zdc c5 c6 c7 c8 c10 c12 kk k s9 s11 s13 = some out -> ∃ N, ∀ n, N <= n -> ∀ k, N <= k -> ∀ (e : Env) (m : Mem), e 0 = (.str c5) -> e 1 = (.str c6) -> e 5 = (.int .i64 c7) -> e 6 = (.int .i32 c8) -> e 7 = (.bool (s9)) -> zA4 (e 11) m 11 c10 s11 -> zA4 (e 17) m 17 c12 s13 -> ∀ (K : YK) (R : YL), zfA c5 c6 c7 c8 c10 c12 K R out -> zbU (zbt cfg (dfn cfg n) n zrj) K k ⟨e, m⟩ = R := by
 intro k
 induction k with
 | zero => intro s9 s11 s13 out h; cases h
 | succ k ih => ?_
 intro s9 s11 s13 out h
 have ih := fun x0 x1 x2 {out} => @ih x0 x1 x2 out
 unfold zdc at h
 have E := evT
 rcases zac h with ⟨h1_, h⟩ | ⟨h1_, h⟩
 have p2_ := zQE h1_
 rcases yG ((s9)) with h3_ | h3_
 rotate_left
 rotate_left
 have p4_ := zQF h1_
 all_goals
  first | (cases h; refine E.l fun n k x => ?_) | refine E.c (ih _ _ _ h) fun n k x I => ?_
  intro e m i0 i1 i2 i3 i4 i5 i6 K R hK
  obtain ⟨_, _, _⟩ := i5
  obtain ⟨_, _, _⟩ := i6
  rw [zap]
  (conv => lhs; arg 4; whnf)
  first | (refine zt ?_; refine zaf (I.1 _ _ ?_ ?_ ?_ ?_ ?_ ?_ ?_ _ _ hK); (iterate 7 exact zs)) | (refine zt ?_; simp only [zfA] at hK; refine hK _ _ ?_ ?_ ?_ ?_ ?_; (iterate 5 exact zs))
def zcX (c1 c2 c3 : Str) (K : YK) (R : YL) : Out (Str) (Nat) -> Prop
 | .ret r => ∀ (e : Env) (m : Mem), e 4 = (.str r) -> K .ret ⟨e, m⟩ = R
 | .done q => ∀ (e : Env) (m : Mem), K (.exit 0) ⟨e, m⟩ = R
noncomputable def zrk : Code := za4 f192 [1, 0, 1, 0, 0]
theorem zkD {c1 c2 c3 : Str} {kk : Nat} : ∀ {k s4 : Nat} {out : Out (Str) (Nat)}, zdd c1 c2 c3 kk k s4 = some out -> ∃ N, ∀ n, N <= n -> ∀ k, N <= k -> ∀ (e : Env) (m : Mem), e 0 = (.str c1) -> e 1 = (.str c2) -> zA4 (e 11) m 11 c3 s4 -> ∀ (K : YK) (R : YL), zcX c1 c2 c3 K R out -> zbU (zbt cfg (dfn cfg n) n zrk) K k ⟨e, m⟩ = R := by
 intro k
 induction k with
 | zero => intro s4 out h; cases h
 | succ k ih => ?_
 intro s4 out h
 have ih := fun x0 {out} => @ih x0 out
 unfold zdd at h
 have E := evT
 rcases zac h with ⟨h5_, h⟩ | ⟨h5_, h⟩
 have p6_ := zQE h5_
 rcases zaw h with ⟨r9_, o8_, h⟩ | ⟨q14, o8_, h⟩
 obtain ⟨_, l7_, E⟩ := E.lp (zkC o8_)
 rotate_left
 obtain ⟨_, l10_, E⟩ := E.lp (zkC o8_)
 rcases zac h with ⟨h11_, h⟩ | ⟨h11_, h⟩
 have b12_ := zan h11_
 obtain ⟨y15, h13_, h⟩ := zaa h
 have h13_ : zfr prog (some (.int .i64 (s4 : Int))) none none (.str c1) .str = pure (.str y15) := zlr h13_ prog
 rotate_left
 have b14_ := zal h11_
 rotate_left
 have p15_ := zQF h5_
 all_goals
  first | (cases h; refine E.l fun n k x => ?_) | refine E.c (ih _ h) fun n k x I => ?_
  intro e m i0 i1 i2 K R hK
  obtain ⟨_, _, _⟩ := i2
  rw [zap]
  (conv => lhs; arg 4; whnf)
  first | (have := l7_; refine zt ?_; refine zaf (l7_.1 n YJ _ _ ?_ ?_ ?_ ?_ ?_ ?_ ?_ _ _ ?_); (iterate 7 exact zs); simp only [zfA]; intro e m i0; (try refine zt ?_); simp only [zcX] at hK; refine hK _ _ ?_; exact zs) | (have := l10_; refine zt ?_; refine zaf (l10_.1 n YJ _ _ ?_ ?_ ?_ ?_ ?_ ?_ ?_ _ _ ?_); (iterate 7 exact zs); simp only [zfA]; intro e m i0 i1 i2 i3 i4; obtain ⟨_, _, _⟩ := i4; (first | ((try refine zt ?_); simp only [zcX] at hK; refine hK _ _ ?_; exact zs) | ((try refine zt ?_); refine zaf (I.1 _ _ ?_ ?_ ?_ _ _ hK); (iterate 3 exact zs)))) | ((try refine zt ?_); simp only [zcX] at hK; refine hK _ _)
theorem ztI {kk : Nat} {a b r : Str} (h : zg9 kk a b = some r) : Ev cfg 192 [(.str a), (.str b)] (.str r) := by
 unfold zg9 at h
 have E := evT
 rcases zaw h with ⟨r18_, o17_, h⟩ | ⟨q16, o17_, h⟩
 obtain ⟨_, l16_, E⟩ := E.lp (zkD o17_)
 rotate_left
 obtain ⟨_, l19_, E⟩ := E.lp (zkD o17_)
 all_goals
  cases h
  refine E.s fun n x => ?_
  first | (have := l16_; refine zt ?_; refine zaf (l16_.1 n YJ _ _ ?_ ?_ ?_ _ _ ?_); (iterate 3 exact zs); simp only [zcX]; intro e m i0; exact zs) | (have := l19_; refine zt ?_; refine zaf (l19_.1 n YJ _ _ ?_ ?_ ?_ _ _ ?_); (iterate 3 exact zs); simp only [zcX]; intro e m; exact zs)
theorem zt0 (a b : Str) (h : a.length < lim /\ b.length < lim /\ zKZ b = true) : Ev cfg 192 [(.str a), (.str b)] (.str (zqB a b)) := ztI (zq8 (kk := big) a b h)
theorem zpG {kk : Nat} {a : zab} {b : Str} {r : Bool × zab} (h : zhm kk a b = some r) : ∃ N, ∀ n, N <= n -> ∀ g0_, dfn cfg n 106 [(.ptr (.arg 0) g0_ 0 0), (.str b)] [.rows g0_ false true 1 [zag a]] = some ⟨(.bool r.1), [.rows g0_ false true 1 [zag r.2]], []⟩ := by
 unfold zhm at h
 have E := evT
 have E := E.and (znP a.rest b)
 cases h
 refine E.s fun n x g0_ => ?_
 simp -dsimp -implicitDefEqProofs only [go_sem, *, simprocAttr] <;> simp -dsimp -implicitDefEqProofs only [go_sem, func106, f106, zd1, *, simprocAttr]
theorem zax (a : zab) (b : Str) : ∃ N, ∀ n, N <= n -> ∀ g0_, dfn cfg n 106 [(.ptr (.arg 0) g0_ 0 0), (.str b)] [.rows g0_ false true 1 [zag a]] = some ⟨(.bool ((zaR a b).1)), [.rows g0_ false true 1 [zag ((zaR a b).2)]], []⟩ := zpG (znL 0 a b)
theorem zqP {kk : Nat} {a : zab} {b : Str} {r : Str × zab} (h : zfD kk a b = some r) : ∃ N, ∀ n, N <= n -> ∀ g0_, dfn cfg n 173 [(.ptr (.arg 0) g0_ 0 0), (.str b)] [.rows g0_ false true 1 [zag a]] = some ⟨(.str r.1), [.rows g0_ false true 1 [zag r.2]], []⟩ := by
 unfold zfD at h
 have E := evT
 obtain ⟨_, h1_, h⟩ := zaa h
 have E := E.and (zt0 a.rest b (zah h1_))
 obtain ⟨y2, h2_, h⟩ := zaa h
 have h2_ : zfr prog none (some (.int .i64 (IntKind.wrap .i64 ((a.rest.length : Int) - ((zqB a.rest b).length : Int))))) none (.str a.rest) .str = pure (.str y2) := zlr h2_ prog
 cases h
 refine E.s fun n x g0_ => ?_
 simp -dsimp -implicitDefEqProofs only [go_sem, *, simprocAttr] <;> simp -dsimp -implicitDefEqProofs only [go_sem, func173, f173, zd1, *, simprocAttr]
theorem zhP (a : zab) (b : Str) (h : a.rest.length < lim /\ b.length < lim /\ zKZ b = true) : ∃ N, ∀ n, N <= n -> ∀ g0_, dfn cfg n 173 [(.ptr (.arg 0) g0_ 0 0), (.str b)] [.rows g0_ false true 1 [zag a]] = some ⟨(.str ((zne a b).1)), [.rows g0_ false true 1 [zag ((zne a b).2)]], []⟩ := zqP (zn1 0 a b h)
theorem znX {kk : Nat} {a : zab} {r : Int × Bool × zab} (h : zdW kk a = some r) : ∃ N, ∀ n, N <= n -> ∀ g0_, dfn cfg n 146 [(.ptr (.arg 0) g0_ 0 0)] [.rows g0_ false true 1 [zag a]] = some ⟨(.tup [(.int .i64 r.1), (.bool r.2.1)]), [.rows g0_ false true 1 [zag r.2.2]], []⟩ := by
 unfold zdW at h
 have E := evT
 obtain ⟨_, h1_, h⟩ := zaa h
 have E := E.and (zhP a [48, 49, 50, 51, 52, 53, 54, 55, 56, 57] (zah h1_))
 obtain ⟨_, h2_, h⟩ := zaa h
 have e3_ := zvI zvM ((zne a [48, 49, 50, 51, 52, 53, 54, 55, 56, 57]).1) 10 64 (zah h2_)
 cases h
 refine E.s fun n x g0_ => ?_
 simp -dsimp -implicitDefEqProofs only [go_sem, *, simprocAttr] <;> simp -dsimp -implicitDefEqProofs only [go_sem, func146, f146, zd1, *, simprocAttr]
theorem zjh (a : zab) (h : a.rest.length < lim) : ∃ N, ∀ n, N <= n -> ∀ g0_, dfn cfg n 146 [(.ptr (.arg 0) g0_ 0 0)] [.rows g0_ false true 1 [zag a]] = some ⟨(.tup [(.int .i64 ((zmb a).1)), (.bool ((zmb a).2.1))]), [.rows g0_ false true 1 [zag ((zmb a).2.2)]], []⟩ := znX (zmf 0 a h)
theorem zxE {kk : Nat} {a : Int} {r : Bool} (h : zlp kk a = some r) : Ev cfg 209 [(.int .i32 a)] (.bool r) := by
 unfold zlp at h
 have E := evT
 rcases yG ((decide (48 <= a))) with h1_ | h1_
 all_goals
  cases h
  refine E.s fun n x => ?_
  exact zs
theorem zx3 (a : Int) : Ev cfg 209 [(.int .i32 a)] (.bool (zAm a)) := zxE (ztN 0 a)
theorem zxD {kk : Nat} {a : Int} {r : Bool} (h : zi7 kk a = some r) : ∃ N, ∀ n, N <= n -> ∀ g0_, dfn cfg n 211 [(.int .i32 a), (.ptr (.arg 0) g0_ 0 0)] [.rows g0_ false false 1 [[(.fn (.func 209) [] [])]]] = some ⟨(.bool r), [.rows g0_ false false 1 [[(.fn (.func 209) [] [])]]], []⟩ := by
 unfold zi7 at h
 have E := evT
 have E := E.and (zx3 a)
 cases h
 refine E.s fun n x g0_ => ?_
 exact zs
def zbC (c1 : Bool) (c2 : Str) (g0_ : Nat) (K : YK) (R : YL) : Out (Int) (Nat) -> Prop
 | .ret r => ∀ (e : Env) (m : Mem), e 6 = (.int .i64 r) -> m (.arg 0) = some (.rows g0_ false false 1 [[(.fn (.func 209) [] [])]]) -> K .ret ⟨e, m⟩ = R
 | .done q => ∀ (e : Env) (m : Mem), m (.arg 0) = some (.rows g0_ false false 1 [[(.fn (.func 209) [] [])]]) -> K (.exit 0) ⟨e, m⟩ = R
noncomputable def zh8 : Code := za4 f234 [1, 0, 1, 0, 0]
theorem zd2 {c1 : Bool} {c2 : Str} {kk : Nat} : ∀ {k s3 : Nat} {out : Out (Int) (Nat)}, zbk c1 c2 kk k s3 = some out -> ∃ N, ∀ n, N <= n -> ∀ k, N <= k -> ∀ g0_, ∀ (e : Env) (m : Mem), e 1 = (.fn (.func 211) [] [(.ptr (.arg 0) g0_ 0 0)]) -> e 2 = (.bool (c1)) -> zA4 (e 10) m 10 c2 s3 -> m (.arg 0) = some (.rows g0_ false false 1 [[(.fn (.func 209) [] [])]]) -> ∀ (K : YK) (R : YL), zbC c1 c2 g0_ K R out -> zbU (zbt cfg (dfn cfg n) n zh8) K k ⟨e, m⟩ = R := by
 intro k
 induction k with
 | zero => intro s3 out h; cases h
 | succ k ih => ?_
 intro s3 out h
 have ih := fun x0 {out} => @ih x0 out
 unfold zbk at h
 have E := evT
 rcases zac h with ⟨h1_, h⟩ | ⟨h1_, h⟩
 have p2_ := zQE h1_
 obtain ⟨r4, h3_, h⟩ := zaa h
 have E := E.and (zxD h3_)
 rcases zac h with ⟨h4_, h⟩ | ⟨h4_, h⟩
 rcases zbL h4_ with b5_ | ⟨b5_, b6_⟩
 obtain ⟨b7_, b8_⟩ := zbG b5_
 rotate_left
 rcases zbj b5_ with b9_ | ⟨b9_, b10_⟩
 obtain ⟨b11_, b12_⟩ := zbG b6_
 have b13_ := zan b11_
 have b14_ := zan b12_
 rotate_left
 obtain ⟨b15_, b16_⟩ := zbG b6_
 have b17_ := zan b15_
 have b18_ := zan b16_
 exact absurd (b9_.symm.trans b17_) (by decide)
 obtain ⟨b19_, b20_⟩ := zaK h4_
 rcases zbj b19_ with b21_ | ⟨b21_, b22_⟩
 rcases zbj b20_ with b23_ | ⟨b23_, b24_⟩
 have b25_ := zal b23_
 exact absurd (b21_.symm.trans b25_) (by decide)
 have b26_ := zan b23_
 have b27_ := zal b24_
 rotate_left
 rcases zbj b20_ with b28_ | ⟨b28_, b29_⟩
 have b30_ := zal b28_
 rotate_left
 have b31_ := zan b28_
 have b32_ := zal b29_
 exact absurd (b21_.symm.trans b31_) (by decide)
 have p33_ := zQF h1_
 all_goals
  first | (cases h; refine E.l fun n k x => ?_) | refine E.c (ih _ h) fun n k x I => ?_
  intro g0_ e m i0 i1 i2 i3 K R hK
  obtain ⟨_, _, _⟩ := i2
  rw [zap]
  (conv => lhs; arg 4; whnf)
  first | (refine zt ?_; simp only [zbC] at hK; refine hK _ _ ?_ ?_; (iterate 2 exact zs)) | (refine zt ?_; refine zaf (I.1 g0_ _ _ ?_ ?_ ?_ ?_ _ _ hK); (iterate 4 exact zs)) | (refine zt ?_; simp only [zbC] at hK; refine hK _ _ ?_; exact zs)
theorem zi0 {kk : Nat} {a : Str} {c : Bool} {r : Int} (h : zb6 kk a c = some r) : ∃ N, ∀ n, N <= n -> ∀ g0_, dfn cfg n 234 [(.str a), (.fn (.func 211) [] [(.ptr (.arg 0) g0_ 0 0)]), (.bool (c))] [.rows g0_ false false 1 [[(.fn (.func 209) [] [])]]] = some ⟨(.int .i64 r), [.rows g0_ false false 1 [[(.fn (.func 209) [] [])]]], []⟩ := by
 unfold zb6 at h
 have E := evT
 rcases zaw h with ⟨r36_, o35_, h⟩ | ⟨q5, o35_, h⟩
 obtain ⟨_, l34_, E⟩ := E.lp (zd2 o35_)
 rotate_left
 obtain ⟨_, l37_, E⟩ := E.lp (zd2 o35_)
 all_goals
  cases h
  refine E.s fun n x g0_ => ?_
  first | (have := l34_; refine zt ?_; refine zaf (l34_.1 n YJ g0_ _ _ ?_ ?_ ?_ ?_ _ _ ?_); (iterate 4 exact zs); simp only [zbC]; intro e m i0 i1; exact zs) | (have := l37_; refine zt ?_; refine zaf (l37_.1 n YJ g0_ _ _ ?_ ?_ ?_ ?_ _ _ ?_); (iterate 4 exact zs); simp only [zbC]; intro e m i0; exact zs)
theorem zi1 {kk : Nat} {a : Str} {r : Int} (h : zb7 kk a = some r) : ∃ N, ∀ n, N <= n -> ∀ g0_, dfn cfg n 223 [(.str a), (.fn (.func 211) [] [(.ptr (.arg 0) g0_ 0 0)])] [.rows g0_ false false 1 [[(.fn (.func 209) [] [])]]] = some ⟨(.int .i64 r), [.rows g0_ false false 1 [[(.fn (.func 209) [] [])]]], []⟩ := by
 unfold zb7 at h
 have E := evT
 obtain ⟨r1, h1_, h⟩ := zaa h
 have E := E.and (zi0 h1_)
 cases h
 refine E.s fun n x g0_ => ?_
 exact zs
theorem zh5 {kk : Nat} {a : Str} {r : Bool} (h : zbD kk a = some r) : ∃ N, ∀ n, N <= n -> ∀ g0_, dfn cfg n 210 [(.str a), (.fn (.func 211) [] [(.ptr (.arg 0) g0_ 0 0)])] [.rows g0_ false false 1 [[(.fn (.func 209) [] [])]]] = some ⟨(.bool r), [.rows g0_ false false 1 [[(.fn (.func 209) [] [])]]], []⟩ := by
 unfold zbD at h
 have E := evT
 obtain ⟨r1, h1_, h⟩ := zaa h
 have E := E.and (zi1 h1_)
 cases h
 refine E.s fun n x g0_ => ?_
 exact zs
def zkL (c1 : Str) (K : YK) (R : YL) (q : Bool) : Prop := ∀ (e : Env) (m : Mem), e 0 = (.str c1) -> e 18 = (.bool (q)) -> K .normal ⟨e, m⟩ = R
noncomputable def zoJ : Code := za4 f194 [1, 1, 0, 0]
theorem zwv {c1 : Str} {kk : Nat} {out : Bool} (h : zhj c1 kk = some out) : ∃ N, ∀ n, N <= n -> ∀ (e : Env) (m : Mem), e 0 = (.str c1) -> zGL (e 4) m 4 1 [(.fn (.func 209) [] [])] -> ∀ (K : YK) (R : YL), zkL c1 K R out -> zbt cfg (dfn cfg n) n zoJ K ⟨e, m⟩ = R := by
 unfold zhj at h
 have E := evT
 rcases zac h with ⟨h1_, h⟩ | ⟨h1_, h⟩
 have b2_ := zan h1_
 obtain ⟨y2, h3_, h⟩ := zaa h
 rcases zac h with ⟨h4_, h⟩ | ⟨h4_, h⟩
 have b5_ := zan h4_
 obtain ⟨r3, h6_, h⟩ := zaa h
 have E := E.and (zh5 h6_)
 rotate_left
 have b7_ := zal h4_
 rotate_left
 have b8_ := zal h1_
 all_goals
  cases h
  refine E.j fun n x => ?_
  intro e m i0 i1 K R hK
  obtain ⟨_, _, _⟩ := i1
  (conv => lhs; arg 4; whnf)
  refine zt ?_
  simp only [zkL] at hK
  refine hK _ _ ?_ ?_
  (iterate 2 exact zs)
theorem zAP {kk : Nat} {a : Str} {r : Int × Int} (h : zkP kk a = some r) : Ev cfg 194 [(.str a)] (.tup [(.int .i64 r.1), (.int .i64 r.2)]) := by
 unfold zkP at h
 have E := evT
 obtain ⟨q4, o10_, h⟩ := zaa h
 obtain ⟨_, l9_, E⟩ := E.lj (zwv o10_)
 rcases zac h with ⟨h12_, h⟩ | ⟨h12_, h⟩
 rotate_left
 obtain ⟨_, h13_, h⟩ := zaa h
 have e14_ := zMk zvM a (zah h13_)
 rcases zac h with ⟨h15_, h⟩ | ⟨h15_, h⟩
 have b16_ := zan h15_
 rotate_left
 have b17_ := zal h15_
 all_goals
  cases h
  refine E.s fun n x => ?_
  have j0 := zeU cfg (dfn cfg n) n zoJ
  (conv at j0 => intro k s; lhs; arg 4; whnf)
  simp -dsimp -implicitDefEqProofs only [go_sem, ↓j0, func194, f194, *, simprocAttr]
  refine zgv (l9_.1 n YJ _ _ ?_ ?_ _ _ ?_)
  (iterate 2 exact zs)
  simp only [zkL]
  intro e m i0 i1
  simp -dsimp -implicitDefEqProofs only [go_sem, ↓j0, func194, f194, *, simprocAttr]
theorem zsX (a : Str) (h : a.length < lim) : Ev cfg 194 [(.str a)] (.tup [(.int .i64 ((zim a).1)), (.int .i64 ((zim a).2))]) := zAP (zwD (kk := big) a h)
theorem zBS {kk : Nat} {a : Str} {r : zbZ × Int} (h : zlC kk a = some r) : Ev cfg 174 [(.str a)] (.tup [(.agg (zev r.1)), (.int .i64 r.2)]) := by
 unfold zlC at h
 have E := evT
 have E := E.and (znP a [116])
 obtain ⟨_, h1_, h⟩ := zaa h
 have e2_ := zOO ((zho a [116]).1) [46] (zah h1_)
 rcases zac h with ⟨h3_, h⟩ | ⟨h3_, h⟩
 rcases zbL h3_ with b4_ | ⟨b4_, b5_⟩
 have b6_ := zan b4_
 rotate_left
 have b7_ := zal b4_
 have b8_ := zan b5_
 rotate_left
 obtain ⟨b9_, b10_⟩ := zaK h3_
 have b11_ := zal b9_
 have b12_ := zal b10_
 obtain ⟨_, h13_, h⟩ := zaa h
 have E := E.and (zsX ((zD6 ((zho a [116]).1) [46]).1) (zah h13_))
 obtain ⟨_, h14_, h⟩ := zaa h
 have E := E.and (zsX ((zD6 ((zho a [116]).1) [46]).2.1) (zah h14_))
 rcases zac h with ⟨h15_, h⟩ | ⟨h15_, h⟩
 rcases zbL h15_ with b16_ | ⟨b16_, b17_⟩
 rotate_left
 rotate_left
 obtain ⟨b18_, b19_⟩ := zaK h15_
 rcases zac h with ⟨h20_, h⟩ | ⟨h20_, h⟩
 rcases zbL h20_ with b21_ | ⟨b21_, b22_⟩
 rotate_left
 rotate_left
 obtain ⟨b23_, b24_⟩ := zaK h20_
 all_goals
  cases h
  refine E.s fun n x => ?_
  exact zs
theorem zB7 (a : Str) (h : a.length < lim) : Ev cfg 174 [(.str a)] (.tup [(.agg (zev ((ziT a).1))), (.int .i64 ((ziT a).2))]) := zBS (zxX (kk := big) a h)
def zkK (c1 : Str) (K : YK) (R : YL) (q : Bool) : Prop := ∀ (e : Env) (m : Mem), e 0 = (.str c1) -> e 20 = (.bool (q)) -> K .normal ⟨e, m⟩ = R
noncomputable def zoI : Code := za4 f225 [1, 0, 0]
theorem zwu {c1 : Str} {kk : Nat} {out : Bool} (h : zhi c1 kk = some out) : ∃ N, ∀ n, N <= n -> ∀ (e : Env) (m : Mem), e 0 = (.str c1) -> ∀ (K : YK) (R : YL), zkK c1 K R out -> zbt cfg (dfn cfg n) n zoI K ⟨e, m⟩ = R := by
 unfold zhi at h
 have E := evT
 rcases zac h with ⟨h1_, h⟩ | ⟨h1_, h⟩
 have b2_ := zan h1_
 obtain ⟨y2, h3_, h⟩ := zaa h
 rcases zac h with ⟨h4_, h⟩ | ⟨h4_, h⟩
 have b5_ := zan h4_
 obtain ⟨y3, h6_, h⟩ := zaa h
 obtain ⟨_, h7_⟩ := zaA h6_
 rotate_left
 have b8_ := zal h4_
 rotate_left
 have b9_ := zal h1_
 all_goals
  cases h
  refine E.j fun n x => ?_
  intro e m i0 K R hK
  (conv => lhs; arg 4; whnf)
  refine zt ?_
  simp only [zkK] at hK
  refine hK _ _ ?_ ?_
  (iterate 2 exact zs)
theorem zAN {kk : Nat} {a : Str} {r : Str × Bool} (h : zkN kk a = some r) : Ev cfg 225 [(.str a)] (.tup [(.str r.1), (.bool r.2)]) := by
 unfold zkN at h
 have E := evT
 obtain ⟨q4, o11_, h⟩ := zaa h
 obtain ⟨_, l10_, E⟩ := E.lj (zwu o11_)
 rcases zac h with ⟨h13_, h⟩ | ⟨h13_, h⟩
 rotate_left
 obtain ⟨y5, h14_, h⟩ := zaa h
 have h14_ : zfr prog (some (.int .i64 1)) (some (.int .i64 (IntKind.wrap .i64 ((a.length : Int) - 1)))) none (.str a) .str = pure (.str y5) := zlr h14_ prog
 obtain ⟨_, h15_, h⟩ := zaa h
 have e16_ := znf y5 [39, 39] [] (zah h15_)
 obtain ⟨_, h17_, h⟩ := zaa h
 have e18_ := znf y5 [39, 39] [39] (zah h17_)
 obtain ⟨_, h19_, h⟩ := zaa h
 have e20_ := zDy (zna y5 [39, 39] []) [39] (zah h19_)
 all_goals
  cases h
  refine E.s fun n x => ?_
  have j0 := zeU cfg (dfn cfg n) n zoI
  (conv at j0 => intro k s; lhs; arg 4; whnf)
  simp -dsimp -implicitDefEqProofs only [go_sem, ↓j0, func225, f225, *, simprocAttr]
  refine zgv (l10_.1 n YJ _ _ ?_ _ _ ?_)
  refine zt ?_
  simp only [zkK]
  intro e m i0 i1
  simp -dsimp -implicitDefEqProofs only [go_sem, ↓j0, func225, f225, *, simprocAttr]
theorem zBe (a : Str) (h : a.length < lim) : Ev cfg 225 [(.str a)] (.tup [(.str ((zob a).1)), (.bool ((zob a).2))]) := zAN (zwB 0 a h)
theorem zxC {kk : Nat} {a : Str} {r : Bool} (h : zi6 kk a = some r) : Ev cfg 226 [(.str a)] (.bool r) := by
 unfold zi6 at h
 have E := evT
 have E := E.and (ztW a [45])
 rcases zac h with ⟨h1_, h⟩ | ⟨h1_, h⟩
 have b2_ := zan h1_
 obtain ⟨y1, h3_, h⟩ := zaa h
 rcases zac h with ⟨h4_, h⟩ | ⟨h4_, h⟩
 obtain ⟨b5_, b6_⟩ := zbG h4_
 have b7_ := zan b6_
 rotate_left
 rcases zbj h4_ with b8_ | ⟨b8_, b9_⟩
 obtain ⟨_, h11_, h⟩ := zaa h
 have e12_ := zFt (zla a [45]) [48, 49, 50, 51, 52, 53, 54, 55, 56, 57] (zah h11_)
 rotate_left
 have b10_ := zal b9_
 obtain ⟨_, h13_, h⟩ := zaa h
 have e14_ := zFt (zla a [45]) [48, 49, 50, 51, 52, 53, 54, 55, 56, 57] (zah h13_)
 rotate_left
 have b15_ := zal h1_
 all_goals
  cases h
  refine E.s fun n x => ?_
  exact zs
theorem zx2 (a : Str) (h : a.length < lim) : Ev cfg 226 [(.str a)] (.bool (zyp a)) := zxC (ztM 0 a h)
theorem zEg {kk : Nat} {a : Str} {r : Val × Int} (h : zmO kk a = some r) : Ev cfg 214 [(.str a)] (.tup [(.agg (zd0 r.1)), (.int .i64 r.2)]) := by
 unfold zmO at h
 have E := evT
 rcases zac h with ⟨h1_, h⟩ | ⟨h1_, h⟩
 rotate_left
 rcases zac h with ⟨h2_, h⟩ | ⟨h2_, h⟩
 rotate_left
 obtain ⟨_, h3_, h⟩ := zaa h
 have E := E.and (zBe a (zah h3_))
 rcases zac h with ⟨h4_, h⟩ | ⟨h4_, h⟩
 rcases zac h with ⟨h5_, h⟩ | ⟨h5_, h⟩
 rotate_left
 rotate_left
 obtain ⟨_, h6_, h⟩ := zaa h
 have E := E.and (zx2 a (zah h6_))
 rcases zac h with ⟨h7_, h⟩ | ⟨h7_, h⟩
 have b8_ := zan h7_
 rotate_left
 have b9_ := zal h7_
 obtain ⟨_, h10_, h⟩ := zaa h
 have e11_ := zvI zvM a 10 64 (zah h10_)
 rcases zac h with ⟨h12_, h⟩ | ⟨h12_, h⟩
 have b13_ := zan h12_
 rotate_left
 have b14_ := zal h12_
 all_goals
  cases h
  refine E.s fun n x => ?_
  exact zs
theorem zwL (a : Str) (h : a.length < lim) : Ev cfg 214 [(.str a)] (.tup [(.agg (zd0 ((zfn a).1))), (.int .i64 ((zfn a).2))]) := zEg (zy1 0 a h)
def zeB (c4 : Int) (c5 : zab) (c6 : Val) (g0_ : Nat) (K : YK) (R : YL) (q : Bool) : Prop := ∀ (e : Env) (m : Mem), e 0 = .ptr (.arg 0) g0_ 0 0 -> zb9 (e 2) m 2 3 (zd0 c6) -> e 5 = (.int .i64 c4) -> e 37 = (.bool (q)) -> m (.arg 0) = some (.rows g0_ false true 1 [zag c5]) -> K .normal ⟨e, m⟩ = R
noncomputable def zhx : Code := za4 f197 [1, 1, 0, 1, 0, 1, 0, 0, 0, 0, 0]
theorem zlV {c4 : Int} {c5 : zab} {c6 : Val} {kk : Nat} {out : Bool} (h : zdi c4 c5 c6 kk = some out) : ∃ N, ∀ n, N <= n -> ∀ g0_, ∀ (e : Env) (m : Mem), e 0 = .ptr (.arg 0) g0_ 0 0 -> zb9 (e 2) m 2 3 (zd0 c6) -> e 5 = (.int .i64 c4) -> m (.arg 0) = some (.rows g0_ false true 1 [zag c5]) -> ∀ (K : YK) (R : YL), zeB c4 c5 c6 g0_ K R out -> zbt cfg (dfn cfg n) n zhx K ⟨e, m⟩ = R := by
 unfold zdi at h
 have E := evT
 rcases zac h with ⟨h1_, h⟩ | ⟨h1_, h⟩
 obtain ⟨y7, h2_, h⟩ := zaa h
 obtain ⟨_, h3_⟩ := zaA h2_
 rcases zac h with ⟨h4_, h⟩ | ⟨h4_, h⟩
 have b5_ := zan h4_
 obtain ⟨y8, h6_, h⟩ := zaa h
 have h6_ : zfr prog (some (.int .i64 c4)) none none (.str c5.rest) .str = pure (.str y8) := zlr h6_ prog
 have E := E.and (znO y8 [39, 39])
 rotate_left
 have b7_ := zal h4_
 all_goals
  cases h
  refine E.j fun n x => ?_
  intro g0_ e m i0 i1 i2 i3 K R hK
  obtain ⟨_, _, _⟩ := i1
  (conv => lhs; arg 4; whnf)
  refine zt ?_
  simp only [zeB] at hK
  refine hK _ _ ?_ ?_ ?_ ?_ ?_
  (iterate 5 exact zs)
def zc9 (c2 : zab) (c3 : Val) (g0_ : Nat) (K : YK) (R : YL) : Out (Val × Bool × zab) (Int) -> Prop
 | .ret r => ∀ (e : Env) (m : Mem), zb9 (e 2) m 2 3 (zd0 r.1) -> e 3 = (.bool r.2.1) -> m (.arg 0) = some (.rows g0_ false true 1 [zag r.2.2]) -> K .ret ⟨e, m⟩ = R
 | .done q => ∀ (e : Env) (m : Mem), e 0 = .ptr (.arg 0) g0_ 0 0 -> zb9 (e 2) m 2 3 (zd0 c3) -> e 5 = (.int .i64 q) -> m (.arg 0) = some (.rows g0_ false true 1 [zag c2]) -> K (.exit 0) ⟨e, m⟩ = R
noncomputable def zl6 : Code := za4 f197 [1, 1, 0, 1, 0, 1, 0, 0, 0]
theorem zhq {c2 : zab} {c3 : Val} {kk : Nat} : ∀ {k : Nat} {s1 : Int} {out : Out (Val × Bool × zab) (Int)}, zbK c2 c3 kk k s1 = some out -> ∃ N, ∀ n, N <= n -> ∀ k, N <= k -> ∀ g0_, ∀ (e : Env) (m : Mem), e 0 = .ptr (.arg 0) g0_ 0 0 -> zb9 (e 2) m 2 3 (zd0 c3) -> e 5 = (.int .i64 s1) -> m (.arg 0) = some (.rows g0_ false true 1 [zag c2]) -> ∀ (K : YK) (R : YL), zc9 c2 c3 g0_ K R out -> zbU (zbt cfg (dfn cfg n) n zl6) K k ⟨e, m⟩ = R := by
 intro k
 induction k with
 | zero => intro s1 out h; cases h
 | succ k ih => ?_
 intro s1 out h
 have ih := fun x0 {out} => @ih x0 out
 unfold zbK at h
 have E := evT
 obtain ⟨q9, o9_, h⟩ := zaa h
 obtain ⟨_, l8_, E⟩ := E.lj (zlV o9_)
 rcases zac h with ⟨h11_, h⟩ | ⟨h11_, h⟩
 obtain ⟨y10, h12_, h⟩ := zaa h
 obtain ⟨_, h13_⟩ := zaA h12_
 rcases zac h with ⟨h14_, h⟩ | ⟨h14_, h⟩
 all_goals
  first | (cases h; refine E.l fun n k x => ?_) | refine E.c (ih _ h) fun n k x I => ?_
  intro g0_ e m i0 i1 i2 i3 K R hK
  obtain ⟨_, _, _⟩ := i1
  have j0 := zeU cfg (dfn cfg n) n zhx
  (conv at j0 => intro k s; lhs; arg 4; whnf)
  rw [zap]
  (conv => lhs; arg 4; whnf)
  simp -dsimp -implicitDefEqProofs only [go_sem, ↓j0, *, simprocAttr]
  refine zgv (l8_.1 n YJ g0_ _ _ ?_ ?_ ?_ ?_ _ _ ?_)
  (iterate 4 exact zs)
  simp only [zeB]
  intro e m i0 i1 i2 i3 i4
  obtain ⟨_, _, _⟩ := i1
  first | ((try simp -dsimp -implicitDefEqProofs only [go_sem, ↓j0, *, simprocAttr]); refine zaf (I.1 g0_ _ _ ?_ ?_ ?_ ?_ _ _ hK); (iterate 4 exact zs)) | ((try simp -dsimp -implicitDefEqProofs only [go_sem, ↓j0, *, simprocAttr]); simp only [zc9] at hK; refine hK _ _ ?_ ?_ ?_ ?_; (iterate 4 exact zs))
theorem zny {kk : Nat} {a : zab} {r : Val × Bool × zab} (h : zdM kk a = some r) : ∃ N, ∀ n, N <= n -> ∀ g0_, dfn cfg n 197 [(.ptr (.arg 0) g0_ 0 0)] [.rows g0_ false true 1 [zag a]] = some ⟨(.tup [(.agg (zd0 r.1)), (.bool r.2.1)]), [.rows g0_ false true 1 [zag r.2.2]], []⟩ := by
 unfold zdM at h
 have E := evT
 have E := E.and (znO a.rest [39])
 rcases zac h with ⟨h15_, h⟩ | ⟨h15_, h⟩
 rcases zaw h with ⟨r18_, o17_, h⟩ | ⟨q11, o17_, h⟩
 obtain ⟨_, l16_, E⟩ := E.lp (zhq o17_)
 rotate_left
 obtain ⟨_, l19_, E⟩ := E.lp (zhq o17_)
 rcases zac h with ⟨h20_, h⟩ | ⟨h20_, h⟩
 rotate_left
 obtain ⟨y12, h21_, h⟩ := zaa h
 have h21_ : zfr prog none (some (.int .i64 (IntKind.wrap .i64 (q11 + 1)))) none (.str a.rest) .str = pure (.str y12) := zlr h21_ prog
 obtain ⟨y13, h22_, h⟩ := zaa h
 have h22_ : zfr prog (some (.int .i64 (IntKind.wrap .i64 (q11 + 1)))) none none (.str a.rest) .str = pure (.str y13) := zlr h22_ prog
 obtain ⟨_, h23_, h⟩ := zaa h
 have E := E.and (zwL y12 (zah h23_))
 rotate_left
 obtain ⟨_, h24_, h⟩ := zaa h
 have E := E.and (zhP a [45, 48, 49, 50, 51, 52, 53, 54, 55, 56, 57, 84, 82, 85, 69, 70, 65, 76, 83, 69] (zah h24_))
 obtain ⟨_, h25_, h⟩ := zaa h
 have E := E.and (zwL ((zne a [45, 48, 49, 50, 51, 52, 53, 54, 55, 56, 57, 84, 82, 85, 69, 70, 65, 76, 83, 69]).1) (zah h25_))
 all_goals
  cases h
  refine E.s fun n x g0_ => ?_
  first | (have := l16_; refine zt ?_; refine zaf (l16_.1 n YJ g0_ _ _ ?_ ?_ ?_ ?_ _ _ ?_); (iterate 4 exact zs); simp only [zc9]; intro e m i0 i1 i2; obtain ⟨_, _, _⟩ := i0; simp -dsimp -implicitDefEqProofs only [go_sem, *, simprocAttr] <;> simp -dsimp -implicitDefEqProofs only [go_sem, func197, f197, zd1, *, simprocAttr]) | (have := l19_; refine zt ?_; refine zaf (l19_.1 n YJ g0_ _ _ ?_ ?_ ?_ ?_ _ _ ?_); (iterate 4 exact zs); simp only [zc9]; intro e m i0 i1 i2 i3; obtain ⟨_, _, _⟩ := i1; simp -dsimp -implicitDefEqProofs only [go_sem, *, simprocAttr] <;> simp -dsimp -implicitDefEqProofs only [go_sem, func197, f197, zd1, *, simprocAttr]) | (simp -dsimp -implicitDefEqProofs only [go_sem, *, simprocAttr] <;> simp -dsimp -implicitDefEqProofs only [go_sem, func197, f197, zd1, *, simprocAttr])
theorem ziK (a : zab) (h : a.rest.length < lim) : ∃ N, ∀ n, N <= n -> ∀ g0_, dfn cfg n 197 [(.ptr (.arg 0) g0_ 0 0)] [.rows g0_ false true 1 [zag a]] = some ⟨(.tup [(.agg (zd0 ((zlK a).1))), (.bool ((zlK a).2.1))]), [.rows g0_ false true 1 [zag ((zlK a).2.2)]], []⟩ := zny (zl2 (kk := big) a h)
attribute [go_sem] func195 f195 func196 f196 func198 f198
theorem znW {kk : Nat} {a : Str} {u1 : zab} {r : Bool × zab} (h : zdV kk a u1 = some r) : ∃ N, ∀ n, N <= n -> ∀ g0_ g1_, dfn cfg n 196 [(.str a), (.ptr (.arg 0) g0_ 0 0)] [.rows g0_ false false 1 [[(.ptr (.arg 1) g1_ 0 0)]], .rows g1_ false true 1 [zag u1]] = some ⟨(.bool r.1), [.rows g0_ false false 1 [[(.ptr (.arg 1) g1_ 0 0)]], .rows g1_ false true 1 [zag r.2]], []⟩ := by
 unfold zdV at h
 have E := evT
 obtain ⟨_, h1_, h⟩ := zaa h
 have h1_ := zah h1_
 try simp -dsimp -implicitDefEqProofs only [go_sem, simprocAttr] at h1_
 have E := E.and (zax u1 (a ++ [123]))
 cases h
 refine E.s fun n x g0_ g1_ => ?_
 simp -dsimp -implicitDefEqProofs only [go_sem, *, simprocAttr] <;> simp -dsimp -implicitDefEqProofs only [go_sem, func196, f196, zd1, *, simprocAttr]
def zaU (c1 : Sl Str) (c2 : Int) (g0_ g1_ : Nat) (K : YK) (R : YL) : Out (Int × zab) (Int × zab) -> Prop
 | .ret r => ∀ (e : Env) (m : Mem), e 4 = (.int .i64 r.1) -> m (.arg 0) = some (.rows g0_ false false 1 [[(.ptr (.arg 1) g1_ 0 0)]]) -> m (.arg 1) = some (.rows g1_ false true 1 [zag r.2]) -> K .ret ⟨e, m⟩ = R
 | .done q => ∀ (e : Env) (m : Mem), m (.arg 0) = some (.rows g0_ false false 1 [[(.ptr (.arg 1) g1_ 0 0)]]) -> m (.arg 1) = some (.rows g1_ false true 1 [zag q.2]) -> K (.exit 0) ⟨e, m⟩ = R
noncomputable def zeQ : Code := za4 f195 [1, 0, 1, 0, 0]
theorem zco {c1 : Sl Str} {c2 : Int} {kk : Nat} : ∀ {k : Nat} {s3 : Int} {s4 : zab} {out : Out (Int × zab) (Int × zab)}, zaI c1 c2 kk k s3 s4 = some out -> ∃ N, ∀ n, N <= n -> ∀ k, N <= k -> ∀ g0_ g1_, ∀ (e : Env) (m : Mem), e 0 = (dSl zsz c1) -> e 1 = (.fn (.func 196) [] [(.ptr (.arg 0) g0_ 0 0)]) -> e 7 = (.int .i64 c2) -> e 8 = (.int .i64 s3) -> m (.arg 0) = some (.rows g0_ false false 1 [[(.ptr (.arg 1) g1_ 0 0)]]) -> m (.arg 1) = some (.rows g1_ false true 1 [zag s4]) -> ∀ (K : YK) (R : YL), zaU c1 c2 g0_ g1_ K R out -> zbU (zbt cfg (dfn cfg n) n zeQ) K k ⟨e, m⟩ = R := by
 intro k
 induction k with
 | zero => intro s3 s4 out h; cases h
 | succ k ih => ?_
 intro s3 s4 out h
 have ih := fun x0 x1 {out} => @ih x0 x1 out
 unfold zaI at h
 have E := evT
 rcases zac h with ⟨h1_, h⟩ | ⟨h1_, h⟩
 obtain ⟨y5, h2_, h⟩ := zaa h
 obtain ⟨_, h3_⟩ := zaA h2_
 have h3_ := zav h3_ zsz
 obtain ⟨r6, h4_, h⟩ := zaa h
 have E := E.and (znW h4_)
 rcases zac h with ⟨h5_, h⟩ | ⟨h5_, h⟩
 all_goals
  first | (cases h; refine E.l fun n k x => ?_) | refine E.c (ih _ _ h) fun n k x I => ?_
  intro g0_ g1_ e m i0 i1 i2 i3 i4 i5 K R hK
  rw [zap]
  (conv => lhs; arg 4; whnf)
  first | (refine zt ?_; simp only [zaU] at hK; refine hK _ _ ?_ ?_ ?_; (iterate 3 exact zs)) | (refine zt ?_; refine zaf (I.1 g0_ g1_ _ _ ?_ ?_ ?_ ?_ ?_ ?_ _ _ hK); (iterate 6 exact zs)) | (refine zt ?_; simp only [zaU] at hK; refine hK _ _ ?_ ?_; (iterate 2 exact zs))
theorem zfu {kk : Nat} {a : (Sl Str)} {u1 : zab} {r : Int × zab} (h : zbp kk a u1 = some r) : ∃ N, ∀ n, N <= n -> ∀ g0_ g1_, dfn cfg n 195 [(dSl zsz a), (.fn (.func 196) [] [(.ptr (.arg 0) g0_ 0 0)])] [.rows g0_ false false 1 [[(.ptr (.arg 1) g1_ 0 0)]], .rows g1_ false true 1 [zag u1]] = some ⟨(.int .i64 r.1), [.rows g0_ false false 1 [[(.ptr (.arg 1) g1_ 0 0)]], .rows g1_ false true 1 [zag r.2]], []⟩ := by
 unfold zbp at h
 have E := evT
 rcases zaw h with ⟨r8_, o7_, h⟩ | ⟨q7, o7_, h⟩
 obtain ⟨_, l6_, E⟩ := E.lp (zco o7_)
 rotate_left
 obtain ⟨_, l9_, E⟩ := E.lp (zco o7_)
 all_goals
  cases h
  refine E.s fun n x g0_ g1_ => ?_
  first | (have := l6_; refine zt ?_; refine zaf (l6_.1 n YJ g0_ g1_ _ _ ?_ ?_ ?_ ?_ ?_ ?_ _ _ ?_); (iterate 6 exact zs); simp only [zaU]; intro e m i0 i1 i2; simp -dsimp -implicitDefEqProofs only [go_sem, *, simprocAttr] <;> simp -dsimp -implicitDefEqProofs only [go_sem, func195, f195, zd1, *, simprocAttr]) | (have := l9_; refine zt ?_; refine zaf (l9_.1 n YJ g0_ g1_ _ _ ?_ ?_ ?_ ?_ ?_ ?_ _ _ ?_); (iterate 6 exact zs); simp only [zaU]; intro e m i0 i1; simp -dsimp -implicitDefEqProofs only [go_sem, *, simprocAttr] <;> simp -dsimp -implicitDefEqProofs only [go_sem, func195, f195, zd1, *, simprocAttr])
theorem znV {kk : Nat} {a : Str} {u1 : zab} {r : Bool × zab} (h : zdU kk a u1 = some r) : ∃ N, ∀ n, N <= n -> ∀ g0_ g1_, dfn cfg n 198 [(.str a), (.ptr (.arg 0) g0_ 0 0)] [.rows g0_ false false 1 [[(.ptr (.arg 1) g1_ 0 0)]], .rows g1_ false true 1 [zag u1]] = some ⟨(.bool r.1), [.rows g0_ false false 1 [[(.ptr (.arg 1) g1_ 0 0)]], .rows g1_ false true 1 [zag r.2]], []⟩ := by
 unfold zdU at h
 have E := evT
 obtain ⟨_, h1_, h⟩ := zaa h
 have h1_ := zah h1_
 try simp -dsimp -implicitDefEqProofs only [go_sem, simprocAttr] at h1_
 have E := E.and (zax u1 (a ++ [32]))
 cases h
 refine E.s fun n x g0_ g1_ => ?_
 simp -dsimp -implicitDefEqProofs only [go_sem, *, simprocAttr] <;> simp -dsimp -implicitDefEqProofs only [go_sem, func198, f198, zd1, *, simprocAttr]
def zaT (c1 : Sl Str) (c2 : Int) (g0_ g1_ : Nat) (K : YK) (R : YL) : Out (Int × zab) (Int × zab) -> Prop
 | .ret r => ∀ (e : Env) (m : Mem), e 4 = (.int .i64 r.1) -> m (.arg 0) = some (.rows g0_ false false 1 [[(.ptr (.arg 1) g1_ 0 0)]]) -> m (.arg 1) = some (.rows g1_ false true 1 [zag r.2]) -> K .ret ⟨e, m⟩ = R
 | .done q => ∀ (e : Env) (m : Mem), m (.arg 0) = some (.rows g0_ false false 1 [[(.ptr (.arg 1) g1_ 0 0)]]) -> m (.arg 1) = some (.rows g1_ false true 1 [zag q.2]) -> K (.exit 0) ⟨e, m⟩ = R
noncomputable def zeP : Code := za4 f195 [1, 0, 1, 0, 0]
theorem zcn {c1 : Sl Str} {c2 : Int} {kk : Nat} : ∀ {k : Nat} {s3 : Int} {s4 : zab} {out : Out (Int × zab) (Int × zab)}, zaH c1 c2 kk k s3 s4 = some out -> ∃ N, ∀ n, N <= n -> ∀ k, N <= k -> ∀ g0_ g1_, ∀ (e : Env) (m : Mem), e 0 = (dSl zsz c1) -> e 1 = (.fn (.func 198) [] [(.ptr (.arg 0) g0_ 0 0)]) -> e 7 = (.int .i64 c2) -> e 8 = (.int .i64 s3) -> m (.arg 0) = some (.rows g0_ false false 1 [[(.ptr (.arg 1) g1_ 0 0)]]) -> m (.arg 1) = some (.rows g1_ false true 1 [zag s4]) -> ∀ (K : YK) (R : YL), zaT c1 c2 g0_ g1_ K R out -> zbU (zbt cfg (dfn cfg n) n zeP) K k ⟨e, m⟩ = R := by
 intro k
 induction k with
 | zero => intro s3 s4 out h; cases h
 | succ k ih => ?_
 intro s3 s4 out h
 have ih := fun x0 x1 {out} => @ih x0 x1 out
 unfold zaH at h
 have E := evT
 rcases zac h with ⟨h1_, h⟩ | ⟨h1_, h⟩
 obtain ⟨y5, h2_, h⟩ := zaa h
 obtain ⟨_, h3_⟩ := zaA h2_
 have h3_ := zav h3_ zsz
 obtain ⟨r6, h4_, h⟩ := zaa h
 have E := E.and (znV h4_)
 rcases zac h with ⟨h5_, h⟩ | ⟨h5_, h⟩
 all_goals
  first | (cases h; refine E.l fun n k x => ?_) | refine E.c (ih _ _ h) fun n k x I => ?_
  intro g0_ g1_ e m i0 i1 i2 i3 i4 i5 K R hK
  rw [zap]
  (conv => lhs; arg 4; whnf)
  first | (refine zt ?_; simp only [zaT] at hK; refine hK _ _ ?_ ?_ ?_; (iterate 3 exact zs)) | (refine zt ?_; refine zaf (I.1 g0_ g1_ _ _ ?_ ?_ ?_ ?_ ?_ ?_ _ _ hK); (iterate 6 exact zs)) | (refine zt ?_; simp only [zaT] at hK; refine hK _ _ ?_ ?_; (iterate 2 exact zs))
theorem zft {kk : Nat} {a : (Sl Str)} {u1 : zab} {r : Int × zab} (h : zbo kk a u1 = some r) : ∃ N, ∀ n, N <= n -> ∀ g0_ g1_, dfn cfg n 195 [(dSl zsz a), (.fn (.func 198) [] [(.ptr (.arg 0) g0_ 0 0)])] [.rows g0_ false false 1 [[(.ptr (.arg 1) g1_ 0 0)]], .rows g1_ false true 1 [zag u1]] = some ⟨(.int .i64 r.1), [.rows g0_ false false 1 [[(.ptr (.arg 1) g1_ 0 0)]], .rows g1_ false true 1 [zag r.2]], []⟩ := by
 unfold zbo at h
 have E := evT
 rcases zaw h with ⟨r8_, o7_, h⟩ | ⟨q7, o7_, h⟩
 obtain ⟨_, l6_, E⟩ := E.lp (zcn o7_)
 rotate_left
 obtain ⟨_, l9_, E⟩ := E.lp (zcn o7_)
 all_goals
  cases h
  refine E.s fun n x g0_ g1_ => ?_
  first | (have := l6_; refine zt ?_; refine zaf (l6_.1 n YJ g0_ g1_ _ _ ?_ ?_ ?_ ?_ ?_ ?_ _ _ ?_); (iterate 6 exact zs); simp only [zaT]; intro e m i0 i1 i2; simp -dsimp -implicitDefEqProofs only [go_sem, *, simprocAttr] <;> simp -dsimp -implicitDefEqProofs only [go_sem, func195, f195, zd1, *, simprocAttr]) | (have := l9_; refine zt ?_; refine zaf (l9_.1 n YJ g0_ g1_ _ _ ?_ ?_ ?_ ?_ ?_ ?_ _ _ ?_); (iterate 6 exact zs); simp only [zaT]; intro e m i0 i1; simp -dsimp -implicitDefEqProofs only [go_sem, *, simprocAttr] <;> simp -dsimp -implicitDefEqProofs only [go_sem, func195, f195, zd1, *, simprocAttr])
theorem zfH (a : (Sl Str)) (u1 : zab) (h : zyf a) : ∃ N, ∀ n, N <= n -> ∀ g0_ g1_, dfn cfg n 195 [(dSl zsz a), (.fn (.func 196) [] [(.ptr (.arg 0) g0_ 0 0)])] [.rows g0_ false false 1 [[(.ptr (.arg 1) g1_ 0 0)]], .rows g1_ false true 1 [zag u1]] = some ⟨(.int .i64 ((zHN a u1).1)), [.rows g0_ false false 1 [[(.ptr (.arg 1) g1_ 0 0)]], .rows g1_ false true 1 [zag ((zHN a u1).2)]], []⟩ := zfu (zeL (kk := big) a u1 h)
theorem zfG (a : (Sl Str)) (u1 : zab) (h : zyf a) : ∃ N, ∀ n, N <= n -> ∀ g0_ g1_, dfn cfg n 195 [(dSl zsz a), (.fn (.func 198) [] [(.ptr (.arg 0) g0_ 0 0)])] [.rows g0_ false false 1 [[(.ptr (.arg 1) g1_ 0 0)]], .rows g1_ false true 1 [zag u1]] = some ⟨(.int .i64 ((zxn a u1).1)), [.rows g0_ false false 1 [[(.ptr (.arg 1) g1_ 0 0)]], .rows g1_ false true 1 [zag ((zxn a u1).2)]], []⟩ := zft (zeK (kk := big) a u1 h)
theorem zMU {α : Type} {p q : α -> Bool} : ∀ {l : List α}, (∀ x ∈ l, q x = true -> p x = true) -> (∃ x ∈ l, p x = true /\ q x = false) -> (l.filter q).length < (l.filter p).length := by
 intro l
 induction l with
 | nil => rintro _ ⟨x, hx, _⟩; simp at hx
 | cons y l ih =>
   intro h ⟨x, hx, h1, h2⟩
   have hle : (l.filter q).length <= (l.filter p).length := by
    clear ih hx
    induction l with
    | nil => simp
    | cons z l ih2 =>
      have := ih2 (fun x hx => h x (by rcases yj.1 hx with rfl | hx <;> simp [*]))
      have hz := h z (by simp)
      simp only [List.filter_cons]
      cases hq : q z
      · cases hp : p z <;> simp <;> omega
      · simp [hz hq]; exact this
   simp only [List.filter_cons]
   rcases yj.1 hx with rfl | hx
   · simp [h1, h2]; omega
   · have := ih (fun x hx => h x (by simp [hx])) ⟨x, hx, h1, h2⟩
     cases hq : q y
     · cases hp : p y <;> simp <;> omega
     · simp [h y (by simp) hq]; exact this
theorem zzG {b : UInt8} {p s : Str} (h : (zaQ (b :: p) s).1 = true) : s.head? = some b := by
 have := zCj (p := b :: p) (s := s) (r := (zaQ (b :: p) s).2) (by rw [<- h])
 rw [this]; rfl
theorem zQz {s : Str} (h : (zaQ zfa s).1 = true) : ziq s = (1, (zaQ zfa s).2) := by unfold ziq; rw [if_pos h]
theorem zQy {s : Str} (h : (zaQ zfb s).1 = true) : ziq s = (2, (zaQ zfb s).2) := by
 have e := zzG h
 unfold ziq
 rw [show zaQ zfa s = (false, s) from zmw _ s 109 (by rw [e]; decide), if_neg (by simp), if_pos h]
theorem zQx {s : Str} (h : (zaQ zc3 s).1 = true) : ziq s = (3, (zaQ zc3 s).2) := by
 have e := zzG h
 unfold ziq
 rw [show zaQ zfa s = (false, s) from zmw _ s 109 (by rw [e]; decide), if_neg (by simp), show zaQ zfb s = (false, s) from zmw _ s 100 (by rw [e]; decide), if_neg (by simp), if_pos h]
theorem zQw {s : Str} (h : (zaQ zji s).1 = true) : ziq s = (4, (zaQ zji s).2) := by
 have e := zzG h
 unfold ziq
 rw [show zaQ zfa s = (false, s) from zmw _ s 109 (by rw [e]; decide), if_neg (by simp), show zaQ zfb s = (false, s) from zmw _ s 100 (by rw [e]; decide), if_neg (by simp), show zaQ zc3 s = (false, s) from zmw _ s 97 (by rw [e]; decide), if_neg (by simp), if_pos h]
theorem zQA {s : Str} (h1 : (zaQ zfa s).1 = false) (h2 : (zaQ zfb s).1 = false) (h3 : (zaQ zc3 s).1 = false) (h4 : (zaQ zji s).1 = false) : ziq s = (0, s) := by
 unfold ziq
 rw [h1, h2, h3, h4]; rfl
theorem zDx {p : zab} {w : Str} (h : (zaQ w p.rest).1 = false) : zaR p w = (false, p) := by
 unfold zaR
 rw [h, zuy (r := (zaQ w p.rest).2) (by rw [<- h])]
noncomputable def BHL : Code := za4 f147 [1, 1, 0, 1, 0, 0]
def zgS : List Ent := [⟨.int .i64 1, .str zfa, 0⟩, ⟨.int .i64 2, .str zfb, 1⟩, ⟨.int .i64 3, .str zc3, 2⟩, ⟨.int .i64 4, .str zji, 3⟩]
theorem zTC : (zgS.all fun e => decide (e.born ≥ 4)) = false := rfl
theorem zhC : (zgS.find? fun e => e.born == 0) = some ⟨.int .i64 1, .str zfa, 0⟩ := rfl
theorem zhB : (zgS.find? fun e => e.born == 1) = some ⟨.int .i64 2, .str zfb, 1⟩ := rfl
theorem zhA : (zgS.find? fun e => e.born == 2) = some ⟨.int .i64 3, .str zc3, 2⟩ := rfl
theorem zhz : (zgS.find? fun e => e.born == 3) = some ⟨.int .i64 4, .str zji, 3⟩ := rfl
def zPA (n : Nat) (c2 : zab) (w : Str) : Prop := ∀ g0_, dfn cfg n 106 [(.ptr (.arg 0) g0_ 0 0), (.str w)] [.rows g0_ false true 1 [zag c2]] = some ⟨(.bool ((zaR c2 w).1)), [.rows g0_ false true 1 [zag ((zaR c2 w).2)]], []⟩
theorem zKp (c1 : Int) (c2 : zab) (c3 c4 : zas) (n g0_ gi gm : Nat) (K : YK) (R : YL)
 (t0 : zPA n c2 zfa) (t1 : zPA n c2 zfb) (t2 : zPA n c2 zc3) (t3 : zPA n c2 zji)
 (hK : ∀ (x : Int) (w : zab), zsk c2 c4 = some (w, x) -> ∀ (e : Env) (m : Mem), e 0 = .ptr (.arg 0) g0_ 0 0 -> e 1 = (.int .i64 c1) -> zb9 (e 4) m 4 10 (zbQ c3) -> zb9 (e 6) m 6 10 (zbQ (c4.setKind x)) -> m (.arg 0) = some (.rows g0_ false true 1 [zag w]) -> K (.exit 0) ⟨e, m⟩ = R) :
 ∀ (j : Nat) (seen : List Nat), (zgS.filter fun e => !seen.contains e.born).length < j ->
  (∀ e ∈ zgS, seen.contains e.born = true -> ∀ w, e.val = .str w -> (zaQ w c2.rest).1 = false) ->
  ∀ (k : Nat) (_ : j <= k) (e : Env) (m : Mem), e 0 = .ptr (.arg 0) g0_ 0 0 -> e 1 = (.int .i64 c1) -> zb9 (e 4) m 4 10 (zbQ c3) -> zb9 (e 6) m 6 10 (zbQ c4) -> m (.arg 0) = some (.rows g0_ false true 1 [zag c2]) ->
  e 18 = .iter (.loc 18 0) gi -> m (.loc 18 0) = some (.miter gi (some (.loc 16 0, gm)) 4 seen 4) -> m (.loc 16 0) = some (.map gm true zgS 4) ->
  zbU (zbt cfg (dfn cfg n) n BHL) K k ⟨e, m⟩ = R := by
 intro j
 induction j with
 | zero => intro seen h; omega
 | succ j ih =>
   intro seen hj hseen k hk e m i0 i1 i2 i3 i4 i5 i6 i7
   obtain ⟨k, rfl⟩ : ∃ q, k = q + 1 := ⟨k - 1, by omega⟩
   obtain ⟨_, f1, f2⟩ := i2
   obtain ⟨_, f3, f4⟩ := i3
   rw [zap]
   conv => lhs; arg 4; whnf
   simp -dsimp -implicitDefEqProofs only [go_sem, i0, i1, f1, f2, f3, f4, i4, i5, i6, i7, zTC, simprocAttr]
   refine zLo ?_ ?_
   · intro hn
     rw [List.append_eq_nil_iff, List.append_eq_nil_iff] at hn
     obtain ⟨h1, h2, _⟩ := hn
     rw [List.map_eq_nil_iff] at h2
     rw [h2] at h1; simp at h1
   intro r hr
   have hr2 : (r = (D.tup [D.bool false], []) /\ ∀ x ∈ zgS, seen.contains x.born = true) ∨ ∃ x ∈ zgS, seen.contains x.born = false /\ r = (D.tup [D.bool true, x.key, x.val], [(Nm.loc 18 0, Blk.miter gi (some (Nm.loc 16 0, gm)) 4 (seen ++ [x.born]) 4)]) := by
    rcases yu.1 hr with h | h
    · split at h
      · rename_i hn
        left
        refine ⟨by simpa using h, fun x hx => ?_⟩
        cases hs : seen.contains x.born with
        | true => rfl
        | false =>
          have hm : x ∈ (zgS.filter fun e => !seen.contains e.born).filter (fun e => decide (e.born < 4)) := by
           rw [List.mem_filter, List.mem_filter]
           refine ⟨⟨hx, by rw [hs]; rfl⟩, ?_⟩
           simp only [zgS, yj, List.not_mem_nil, or_false] at hx
           rcases hx with rfl | rfl | rfl | rfl <;> rfl
          rw [List.isEmpty_iff] at hn
          rw [hn] at hm; simp at hm
      · simp at h
    · right
      rcases yu.1 h with h | h
      · obtain ⟨x, hx, rfl⟩ := YC.1 h
        have h3 := (List.mem_filter.1 (List.mem_filter.1 hx).1)
        exact ⟨x, h3.1, by simpa using h3.2, rfl⟩
      · obtain ⟨x, hx, rfl⟩ := YC.1 h
        have h3 := (List.mem_filter.1 (List.mem_filter.1 hx).1)
        exact ⟨x, h3.1, by simpa using h3.2, rfl⟩
   have hlt : ∀ x ∈ zgS, seen.contains x.born = false -> (zgS.filter fun e => !(seen ++ [x.born]).contains e.born).length < j := by
    intro x hx hs
    have : (zgS.filter fun e => !(seen ++ [x.born]).contains e.born).length < (zgS.filter fun e => !seen.contains e.born).length := by
     refine zMU (fun y _ hy => ?_) ⟨x, hx, by rw [hs]; rfl, by simp⟩
     simp only [Bool.not_eq_true', List.contains_eq_mem, yu, decide_eq_false_iff_not, not_or] at hy ⊢
     exact hy.1
    omega
   have hse : ∀ x ∈ zgS, (∀ w, x.val = .str w -> (zaQ w c2.rest).1 = false) -> ∀ y ∈ zgS, (seen ++ [x.born]).contains y.born = true -> ∀ w, y.val = .str w -> (zaQ w c2.rest).1 = false := by
    intro x hx h1 y hy hc w hw
    simp only [List.contains_eq_mem, yu, YG, List.mem_singleton] at hc
    rcases hc with hc | hc
    · exact hseen y hy (by simpa using hc) w hw
    · have e : y = x := by
       simp only [zgS, yj, List.not_mem_nil, or_false] at hx hy
       rcases hx with rfl | rfl | rfl | rfl <;> rcases hy with rfl | rfl | rfl | rfl <;> first | rfl | (exact absurd hc (by decide))
      subst e; exact h1 w hw
   clear hr
   rcases hr2 with ⟨rfl, hall⟩ | ⟨x, hx, hs, rfl⟩
   · simp -dsimp -implicitDefEqProofs only [go_sem, i0, i1, f1, f2, f3, f4, i4, i5, i6, i7, simprocAttr]
     have b0 := hseen _ (by simp [zgS]) (hall ⟨.int .i64 1, .str zfa, 0⟩ (by simp [zgS])) _ rfl
     have b1 := hseen _ (by simp [zgS]) (hall ⟨.int .i64 2, .str zfb, 1⟩ (by simp [zgS])) _ rfl
     have b2 := hseen _ (by simp [zgS]) (hall ⟨.int .i64 3, .str zc3, 2⟩ (by simp [zgS])) _ rfl
     have b3 := hseen _ (by simp [zgS]) (hall ⟨.int .i64 4, .str zji, 3⟩ (by simp [zgS])) _ rfl
     refine hK c4.kind c2 (by unfold zsk; rw [zQA b0 b1 b2 b3]; rfl) _ _ ?_ ?_ ?_ ?_ ?_
     · simp -dsimp -implicitDefEqProofs only [go_sem, i0, i1, f1, f2, f3, f4, i4, i5, i6, i7, simprocAttr]
     · simp -dsimp -implicitDefEqProofs only [go_sem, i0, i1, f1, f2, f3, f4, i4, i5, i6, i7, simprocAttr]
     · simp -dsimp -implicitDefEqProofs only [go_sem, zb9, i0, i1, f1, f2, f3, f4, i4, i5, i6, i7, simprocAttr]; exact ⟨_, rfl, rfl⟩
     · simp -dsimp -implicitDefEqProofs only [go_sem, zb9, i0, i1, f1, f2, f3, f4, i4, i5, i6, i7, simprocAttr]; exact ⟨_, rfl, rfl⟩
     · simp -dsimp -implicitDefEqProofs only [go_sem, i0, i1, f1, f2, f3, f4, i4, i5, i6, i7, simprocAttr]
   · have hl := hlt x hx hs
     have hs2 := hse x hx
     simp only [zgS, yj, List.not_mem_nil, or_false] at hx
     rcases hx with rfl | rfl | rfl | rfl
     · have tt : ∀ g0_, dfn cfg n 106 [(.ptr (.arg 0) g0_ 0 0), (.str zfa)] [.rows g0_ false true 1 [zag c2]] = some ⟨(.bool ((zaR c2 zfa).1)), [.rows g0_ false true 1 [zag ((zaR c2 zfa).2)]], []⟩ := t0
       cases hb : (zaQ zfa c2.rest).1 with
       | true =>
         have hb : (zaR c2 zfa).1 = true := hb
         simp -dsimp -implicitDefEqProofs only [go_sem, i0, i1, f1, f2, f3, f4, i4, i5, i6, i7, tt, hb, zhC, yJ, yE, yM, yN, simprocAttr]
         refine hK 1 (zaR c2 zfa).2 (by unfold zsk; rw [zQz hb]; rfl) _ _ ?_ ?_ ?_ ?_ ?_
         · simp -dsimp -implicitDefEqProofs only [go_sem, i0, i1, f1, f2, f3, f4, i4, i5, i6, i7, tt, hb, zhC, yJ, yE, yM, yN, simprocAttr]
         · simp -dsimp -implicitDefEqProofs only [go_sem, i0, i1, f1, f2, f3, f4, i4, i5, i6, i7, tt, hb, zhC, yJ, yE, yM, yN, simprocAttr]
         · simp -dsimp -implicitDefEqProofs only [go_sem, zb9, i0, i1, f1, f2, f3, f4, i4, i5, i6, i7, tt, hb, zhC, yJ, yE, yM, yN, simprocAttr]; exact ⟨_, rfl, rfl⟩
         · simp -dsimp -implicitDefEqProofs only [go_sem, zb9, i0, i1, f1, f2, f3, f4, i4, i5, i6, i7, tt, hb, zhC, yJ, yE, yM, yN, simprocAttr]; exact ⟨_, rfl, rfl⟩
         · simp -dsimp -implicitDefEqProofs only [go_sem, i0, i1, f1, f2, f3, f4, i4, i5, i6, i7, tt, hb, zhC, yJ, yE, yM, yN, simprocAttr]
       | false =>
         have hs2 := hs2 (fun w hw => by cases hw; exact hb)
         have hb := zDx hb
         simp -dsimp -implicitDefEqProofs only [go_sem, i0, i1, f1, f2, f3, f4, i4, i5, i6, i7, tt, hb, zhC, yJ, yE, yM, yN, simprocAttr]
         refine zaf (ih _ hl hs2 k YJ _ _ ?_ ?_ ?_ ?_ ?_ ?_ ?_ ?_)
         · simp -dsimp -implicitDefEqProofs only [go_sem, i0, i1, f1, f2, f3, f4, i4, i5, i6, i7, tt, hb, zhC, yJ, yE, yM, yN, simprocAttr]
         · simp -dsimp -implicitDefEqProofs only [go_sem, i0, i1, f1, f2, f3, f4, i4, i5, i6, i7, tt, hb, zhC, yJ, yE, yM, yN, simprocAttr]
         · simp -dsimp -implicitDefEqProofs only [go_sem, zb9, i0, i1, f1, f2, f3, f4, i4, i5, i6, i7, tt, hb, zhC, yJ, yE, yM, yN, simprocAttr]; exact ⟨_, rfl, rfl⟩
         · simp -dsimp -implicitDefEqProofs only [go_sem, zb9, i0, i1, f1, f2, f3, f4, i4, i5, i6, i7, tt, hb, zhC, yJ, yE, yM, yN, simprocAttr]; exact ⟨_, rfl, rfl⟩
         · simp -dsimp -implicitDefEqProofs only [go_sem, i0, i1, f1, f2, f3, f4, i4, i5, i6, i7, tt, hb, zhC, yJ, yE, yM, yN, simprocAttr]
         · simp -dsimp -implicitDefEqProofs only [go_sem, i0, i1, f1, f2, f3, f4, i4, i5, i6, i7, tt, hb, zhC, yJ, yE, yM, yN, simprocAttr]
         · simp -dsimp -implicitDefEqProofs only [go_sem, i0, i1, f1, f2, f3, f4, i4, i5, i6, i7, tt, hb, zhC, yJ, yE, yM, yN, simprocAttr]
         · simp -dsimp -implicitDefEqProofs only [go_sem, i0, i1, f1, f2, f3, f4, i4, i5, i6, i7, tt, hb, zhC, yJ, yE, yM, yN, simprocAttr]
     · have tt : ∀ g0_, dfn cfg n 106 [(.ptr (.arg 0) g0_ 0 0), (.str zfb)] [.rows g0_ false true 1 [zag c2]] = some ⟨(.bool ((zaR c2 zfb).1)), [.rows g0_ false true 1 [zag ((zaR c2 zfb).2)]], []⟩ := t1
       cases hb : (zaQ zfb c2.rest).1 with
       | true =>
         have hb : (zaR c2 zfb).1 = true := hb
         simp -dsimp -implicitDefEqProofs only [go_sem, i0, i1, f1, f2, f3, f4, i4, i5, i6, i7, tt, hb, zhB, yJ, yE, yM, yN, simprocAttr]
         refine hK 2 (zaR c2 zfb).2 (by unfold zsk; rw [zQy hb]; rfl) _ _ ?_ ?_ ?_ ?_ ?_
         · simp -dsimp -implicitDefEqProofs only [go_sem, i0, i1, f1, f2, f3, f4, i4, i5, i6, i7, tt, hb, zhB, yJ, yE, yM, yN, simprocAttr]
         · simp -dsimp -implicitDefEqProofs only [go_sem, i0, i1, f1, f2, f3, f4, i4, i5, i6, i7, tt, hb, zhB, yJ, yE, yM, yN, simprocAttr]
         · simp -dsimp -implicitDefEqProofs only [go_sem, zb9, i0, i1, f1, f2, f3, f4, i4, i5, i6, i7, tt, hb, zhB, yJ, yE, yM, yN, simprocAttr]; exact ⟨_, rfl, rfl⟩
         · simp -dsimp -implicitDefEqProofs only [go_sem, zb9, i0, i1, f1, f2, f3, f4, i4, i5, i6, i7, tt, hb, zhB, yJ, yE, yM, yN, simprocAttr]; exact ⟨_, rfl, rfl⟩
         · simp -dsimp -implicitDefEqProofs only [go_sem, i0, i1, f1, f2, f3, f4, i4, i5, i6, i7, tt, hb, zhB, yJ, yE, yM, yN, simprocAttr]
       | false =>
         have hs2 := hs2 (fun w hw => by cases hw; exact hb)
         have hb := zDx hb
         simp -dsimp -implicitDefEqProofs only [go_sem, i0, i1, f1, f2, f3, f4, i4, i5, i6, i7, tt, hb, zhB, yJ, yE, yM, yN, simprocAttr]
         refine zaf (ih _ hl hs2 k YJ _ _ ?_ ?_ ?_ ?_ ?_ ?_ ?_ ?_)
         · simp -dsimp -implicitDefEqProofs only [go_sem, i0, i1, f1, f2, f3, f4, i4, i5, i6, i7, tt, hb, zhB, yJ, yE, yM, yN, simprocAttr]
         · simp -dsimp -implicitDefEqProofs only [go_sem, i0, i1, f1, f2, f3, f4, i4, i5, i6, i7, tt, hb, zhB, yJ, yE, yM, yN, simprocAttr]
         · simp -dsimp -implicitDefEqProofs only [go_sem, zb9, i0, i1, f1, f2, f3, f4, i4, i5, i6, i7, tt, hb, zhB, yJ, yE, yM, yN, simprocAttr]; exact ⟨_, rfl, rfl⟩
         · simp -dsimp -implicitDefEqProofs only [go_sem, zb9, i0, i1, f1, f2, f3, f4, i4, i5, i6, i7, tt, hb, zhB, yJ, yE, yM, yN, simprocAttr]; exact ⟨_, rfl, rfl⟩
         · simp -dsimp -implicitDefEqProofs only [go_sem, i0, i1, f1, f2, f3, f4, i4, i5, i6, i7, tt, hb, zhB, yJ, yE, yM, yN, simprocAttr]
         · simp -dsimp -implicitDefEqProofs only [go_sem, i0, i1, f1, f2, f3, f4, i4, i5, i6, i7, tt, hb, zhB, yJ, yE, yM, yN, simprocAttr]
         · simp -dsimp -implicitDefEqProofs only [go_sem, i0, i1, f1, f2, f3, f4, i4, i5, i6, i7, tt, hb, zhB, yJ, yE, yM, yN, simprocAttr]
         · simp -dsimp -implicitDefEqProofs only [go_sem, i0, i1, f1, f2, f3, f4, i4, i5, i6, i7, tt, hb, zhB, yJ, yE, yM, yN, simprocAttr]
     · have tt : ∀ g0_, dfn cfg n 106 [(.ptr (.arg 0) g0_ 0 0), (.str zc3)] [.rows g0_ false true 1 [zag c2]] = some ⟨(.bool ((zaR c2 zc3).1)), [.rows g0_ false true 1 [zag ((zaR c2 zc3).2)]], []⟩ := t2
       cases hb : (zaQ zc3 c2.rest).1 with
       | true =>
         have hb : (zaR c2 zc3).1 = true := hb
         simp -dsimp -implicitDefEqProofs only [go_sem, i0, i1, f1, f2, f3, f4, i4, i5, i6, i7, tt, hb, zhA, yJ, yE, yM, yN, simprocAttr]
         refine hK 3 (zaR c2 zc3).2 (by unfold zsk; rw [zQx hb]; rfl) _ _ ?_ ?_ ?_ ?_ ?_
         · simp -dsimp -implicitDefEqProofs only [go_sem, i0, i1, f1, f2, f3, f4, i4, i5, i6, i7, tt, hb, zhA, yJ, yE, yM, yN, simprocAttr]
         · simp -dsimp -implicitDefEqProofs only [go_sem, i0, i1, f1, f2, f3, f4, i4, i5, i6, i7, tt, hb, zhA, yJ, yE, yM, yN, simprocAttr]
         · simp -dsimp -implicitDefEqProofs only [go_sem, zb9, i0, i1, f1, f2, f3, f4, i4, i5, i6, i7, tt, hb, zhA, yJ, yE, yM, yN, simprocAttr]; exact ⟨_, rfl, rfl⟩
         · simp -dsimp -implicitDefEqProofs only [go_sem, zb9, i0, i1, f1, f2, f3, f4, i4, i5, i6, i7, tt, hb, zhA, yJ, yE, yM, yN, simprocAttr]; exact ⟨_, rfl, rfl⟩
         · simp -dsimp -implicitDefEqProofs only [go_sem, i0, i1, f1, f2, f3, f4, i4, i5, i6, i7, tt, hb, zhA, yJ, yE, yM, yN, simprocAttr]
       | false =>
         have hs2 := hs2 (fun w hw => by cases hw; exact hb)
         have hb := zDx hb
         simp -dsimp -implicitDefEqProofs only [go_sem, i0, i1, f1, f2, f3, f4, i4, i5, i6, i7, tt, hb, zhA, yJ, yE, yM, yN, simprocAttr]
         refine zaf (ih _ hl hs2 k YJ _ _ ?_ ?_ ?_ ?_ ?_ ?_ ?_ ?_)
         · simp -dsimp -implicitDefEqProofs only [go_sem, i0, i1, f1, f2, f3, f4, i4, i5, i6, i7, tt, hb, zhA, yJ, yE, yM, yN, simprocAttr]
         · simp -dsimp -implicitDefEqProofs only [go_sem, i0, i1, f1, f2, f3, f4, i4, i5, i6, i7, tt, hb, zhA, yJ, yE, yM, yN, simprocAttr]
         · simp -dsimp -implicitDefEqProofs only [go_sem, zb9, i0, i1, f1, f2, f3, f4, i4, i5, i6, i7, tt, hb, zhA, yJ, yE, yM, yN, simprocAttr]; exact ⟨_, rfl, rfl⟩
         · simp -dsimp -implicitDefEqProofs only [go_sem, zb9, i0, i1, f1, f2, f3, f4, i4, i5, i6, i7, tt, hb, zhA, yJ, yE, yM, yN, simprocAttr]; exact ⟨_, rfl, rfl⟩
         · simp -dsimp -implicitDefEqProofs only [go_sem, i0, i1, f1, f2, f3, f4, i4, i5, i6, i7, tt, hb, zhA, yJ, yE, yM, yN, simprocAttr]
         · simp -dsimp -implicitDefEqProofs only [go_sem, i0, i1, f1, f2, f3, f4, i4, i5, i6, i7, tt, hb, zhA, yJ, yE, yM, yN, simprocAttr]
         · simp -dsimp -implicitDefEqProofs only [go_sem, i0, i1, f1, f2, f3, f4, i4, i5, i6, i7, tt, hb, zhA, yJ, yE, yM, yN, simprocAttr]
         · simp -dsimp -implicitDefEqProofs only [go_sem, i0, i1, f1, f2, f3, f4, i4, i5, i6, i7, tt, hb, zhA, yJ, yE, yM, yN, simprocAttr]
     · have tt : ∀ g0_, dfn cfg n 106 [(.ptr (.arg 0) g0_ 0 0), (.str zji)] [.rows g0_ false true 1 [zag c2]] = some ⟨(.bool ((zaR c2 zji).1)), [.rows g0_ false true 1 [zag ((zaR c2 zji).2)]], []⟩ := t3
       cases hb : (zaQ zji c2.rest).1 with
       | true =>
         have hb : (zaR c2 zji).1 = true := hb
         simp -dsimp -implicitDefEqProofs only [go_sem, i0, i1, f1, f2, f3, f4, i4, i5, i6, i7, tt, hb, zhz, yJ, yE, yM, yN, simprocAttr]
         refine hK 4 (zaR c2 zji).2 (by unfold zsk; rw [zQw hb]; rfl) _ _ ?_ ?_ ?_ ?_ ?_
         · simp -dsimp -implicitDefEqProofs only [go_sem, i0, i1, f1, f2, f3, f4, i4, i5, i6, i7, tt, hb, zhz, yJ, yE, yM, yN, simprocAttr]
         · simp -dsimp -implicitDefEqProofs only [go_sem, i0, i1, f1, f2, f3, f4, i4, i5, i6, i7, tt, hb, zhz, yJ, yE, yM, yN, simprocAttr]
         · simp -dsimp -implicitDefEqProofs only [go_sem, zb9, i0, i1, f1, f2, f3, f4, i4, i5, i6, i7, tt, hb, zhz, yJ, yE, yM, yN, simprocAttr]; exact ⟨_, rfl, rfl⟩
         · simp -dsimp -implicitDefEqProofs only [go_sem, zb9, i0, i1, f1, f2, f3, f4, i4, i5, i6, i7, tt, hb, zhz, yJ, yE, yM, yN, simprocAttr]; exact ⟨_, rfl, rfl⟩
         · simp -dsimp -implicitDefEqProofs only [go_sem, i0, i1, f1, f2, f3, f4, i4, i5, i6, i7, tt, hb, zhz, yJ, yE, yM, yN, simprocAttr]
       | false =>
         have hs2 := hs2 (fun w hw => by cases hw; exact hb)
         have hb := zDx hb
         simp -dsimp -implicitDefEqProofs only [go_sem, i0, i1, f1, f2, f3, f4, i4, i5, i6, i7, tt, hb, zhz, yJ, yE, yM, yN, simprocAttr]
         refine zaf (ih _ hl hs2 k YJ _ _ ?_ ?_ ?_ ?_ ?_ ?_ ?_ ?_)
         · simp -dsimp -implicitDefEqProofs only [go_sem, i0, i1, f1, f2, f3, f4, i4, i5, i6, i7, tt, hb, zhz, yJ, yE, yM, yN, simprocAttr]
         · simp -dsimp -implicitDefEqProofs only [go_sem, i0, i1, f1, f2, f3, f4, i4, i5, i6, i7, tt, hb, zhz, yJ, yE, yM, yN, simprocAttr]
         · simp -dsimp -implicitDefEqProofs only [go_sem, zb9, i0, i1, f1, f2, f3, f4, i4, i5, i6, i7, tt, hb, zhz, yJ, yE, yM, yN, simprocAttr]; exact ⟨_, rfl, rfl⟩
         · simp -dsimp -implicitDefEqProofs only [go_sem, zb9, i0, i1, f1, f2, f3, f4, i4, i5, i6, i7, tt, hb, zhz, yJ, yE, yM, yN, simprocAttr]; exact ⟨_, rfl, rfl⟩
         · simp -dsimp -implicitDefEqProofs only [go_sem, i0, i1, f1, f2, f3, f4, i4, i5, i6, i7, tt, hb, zhz, yJ, yE, yM, yN, simprocAttr]
         · simp -dsimp -implicitDefEqProofs only [go_sem, i0, i1, f1, f2, f3, f4, i4, i5, i6, i7, tt, hb, zhz, yJ, yE, yM, yN, simprocAttr]
         · simp -dsimp -implicitDefEqProofs only [go_sem, i0, i1, f1, f2, f3, f4, i4, i5, i6, i7, tt, hb, zhz, yJ, yE, yM, yN, simprocAttr]
         · simp -dsimp -implicitDefEqProofs only [go_sem, i0, i1, f1, f2, f3, f4, i4, i5, i6, i7, tt, hb, zhz, yJ, yE, yM, yN, simprocAttr]
end Go.Proofs.Tryz
namespace Go.Proofs.Tryz
open Go.IntKind (wrap)
open Go.Ev
attribute [go_sem] func57 f57 func175 f175
def zdG (c1 : Int) (g0_ : Nat) (K : YK) (R : YL) : Out ((Sl zam) × Bool × zab) (List zam × zab) -> Prop
 | .ret r => ∀ (e : Env) (m : Mem), zA3 (e 4) m [24] 2 zaq r.1 -> e 5 = (.bool r.2.1) -> m (.arg 0) = some (.rows g0_ false true 1 [zag r.2.2]) -> K .ret ⟨e, m⟩ = R
 | .done q => False
noncomputable def zkX : Code := za4 f57 [1, 1, 1, 1, 0, 0]
abbrev zyZ (sz : Nat) : Prop := (∀ (a : zab) (b : Int), (a.rest.length < lim /\ -1 <= b /\ b <= 8 /\ 4 * (b + 1).toNat + 3 < sz) -> ∃ N, ∀ n, N <= n -> ∀ g0_, dfn cfg n 57 [(.ptr (.arg 0) g0_ 0 0), (.int .i64 b)] [.rows g0_ false true 1 [zag a]] = some ⟨(.tup [(dSl zaq ((zc4 a b).1)), (.bool ((zc4 a b).2.1))]), [.rows g0_ false true 1 [zag ((zc4 a b).2.2)]], []⟩) /\ (∀ (a : zab) (b : Int), (a.rest.length < lim /\ 0 <= b /\ b <= 8 /\ 4 * (b + 1).toNat + 2 < sz) -> ∃ N, ∀ n, N <= n -> ∀ g0_, dfn cfg n 107 [(.ptr (.arg 0) g0_ 0 0), (.int .i64 b)] [.rows g0_ false true 1 [zag a]] = some ⟨(.tup [(.agg (zaq ((zoj a b).1))), (.bool ((zoj a b).2.1))]), [.rows g0_ false true 1 [zag ((zoj a b).2.2)]], []⟩) /\ (∀ (a : zab) (b : Int), (a.rest.length < lim /\ 0 <= b /\ b <= 8 /\ 4 * (b + 1).toNat + 1 < sz) -> ∃ N, ∀ n, N <= n -> ∀ g0_, dfn cfg n 147 [(.ptr (.arg 0) g0_ 0 0), (.int .i64 b)] [.rows g0_ false true 1 [zag a]] = some ⟨(.tup [(.agg (zbQ ((zgQ a b).1))), (.bool ((zgQ a b).2.1))]), [.rows g0_ false true 1 [zag ((zgQ a b).2.2)]], []⟩) /\ (∀ (a : zab) (b : zas) (c : Int), (a.rest.length < lim /\ b = zas.zero.setKind 4 /\ 0 <= c /\ c <= 8 /\ 4 * (c + 1).toNat < sz) -> ∃ N, ∀ n, N <= n -> ∃ γ_ : Nat -> Nat -> Nat, ∀ g0_ g1_,  dfn cfg n 175 [(.ptr (.arg 0) g0_ 0 0), (.ptr (.arg 1) g1_ 0 0), (.int .i64 c)] [.rows g0_ false true 1 [zag a], .rows g1_ false true 10 [zbQ (b.setItems Sl.nil)]] = some ⟨(.bool ((zds a b c).1)), [.rows g0_ false true 1 [zag ((zds a b c).2.1)], .rows g1_ false (zRF (((zds a b c).2.2).items.l)) 10 [[(.int .i64 (((zds a b c).2.2).kind)), (.int .i64 ((((zds a b c).2.2).row).table)), (.int .i64 ((((zds a b c).2.2).row).seq)), (dSl (cSl zaq) (((zds a b c).2.2).args)), (.int .i64 (((zds a b c).2.2).func)), (zO6 (((zds a b c).2.2).items.l) (γ_ g0_ g1_)), (.int .i64 (((zds a b c).2.2).op)), (.int .i64 ((((zds a b c).2.2).bound).kind)), (.int .i64 ((((zds a b c).2.2).bound).int)), (.str ((((zds a b c).2.2).bound).text))]]], zO7 (γ_ g0_ g1_) 4 zao (((zds a b c).2.2).items.l)⟩)
theorem zkx {c1 : Int} {sz : Nat} (hg : zyZ sz) {kk : Nat} : ∀ {k : Nat} {s2 : List zam} {s3 : zab} {out : Out ((Sl zam) × Bool × zab) (List zam × zab)}, zbN c1 sz kk k s2 s3 = some out -> ∃ N, ∀ n, N <= n -> ∀ k, N <= k -> ∀ g0_, ∀ (e : Env) (m : Mem), e 0 = .ptr (.arg 0) g0_ 0 0 -> e 1 = (.int .i64 c1) -> zqZ (e 6) m [24] 2 zaq s2 -> m (.arg 0) = some (.rows g0_ false true 1 [zag s3]) -> ∀ (K : YK) (R : YL), zdG c1 g0_ K R out -> zbU (zbt cfg (dfn cfg n) n zkX) K k ⟨e, m⟩ = R := by
 have ⟨_, hT, _, _⟩ := hg
 intro k
 induction k with
 | zero => intro s2 s3 out h; cases h
 | succ k ih => ?_
 intro s2 s3 out h
 have ih := fun x0 x1 {out} => @ih x0 x1 out
 unfold zbN at h
 have E := evT
 obtain ⟨_, h1_, h⟩ := zaa h
 have E := E.and (hT s3 c1 (zah h1_))
 rcases zac h with ⟨h2_, h⟩ | ⟨h2_, h⟩
 have b3_ := zan h2_
 rotate_left
 have b4_ := zal h2_
 obtain ⟨_, h5_, h⟩ := zaa h
 have h5_ := zah h5_
 try simp -dsimp -implicitDefEqProofs only [go_sem, simprocAttr] at h5_
 have E := E.and (zax ((zoj s3 c1).2.2) [32, 43, 32])
 rcases zac h with ⟨h6_, h⟩ | ⟨h6_, h⟩
 have b7_ := zan h6_
 rotate_left
 have b8_ := zal h6_
 all_goals
  first | (cases h; refine E.l fun n k x => ?_) | refine E.c (ih _ _ h) fun n k x I => ?_
  intro g0_ e m i0 i1 i2 i3 K R hK
  rcases zsi i2 with ⟨_, _⟩ | ⟨_, _, _, _⟩ <;> (rw [zap]; (conv => lhs; arg 4; whnf); (first | (refine zt ?_; simp only [zdG] at hK; refine hK _ _ ?_ ?_ ?_; (iterate 3 exact zs)) | (refine zt ?_; refine zaf (I.1 g0_ _ _ ?_ ?_ ?_ ?_ _ _ hK); (iterate 4 exact zs))))
theorem zlR {kk : Nat} {a : zab} {b : Int} {sz : Nat} (hg : zyZ sz) {r : (Sl zam) × Bool × zab} (h : zdb kk sz a b = some r) : ∃ N, ∀ n, N <= n -> ∀ g0_, dfn cfg n 57 [(.ptr (.arg 0) g0_ 0 0), (.int .i64 b)] [.rows g0_ false true 1 [zag a]] = some ⟨(.tup [(dSl zaq r.1), (.bool r.2.1)]), [.rows g0_ false true 1 [zag r.2.2]], []⟩ := by
 unfold zdb at h
 have E := evT
 rcases zac h with ⟨h9_, h⟩ | ⟨h9_, h⟩
 rotate_left
 have E := E.and (zax a [48])
 rcases zac h with ⟨h10_, h⟩ | ⟨h10_, h⟩
 rotate_left
 rcases zaw h with ⟨r13_, o12_, h⟩ | ⟨q6, o12_, h⟩
 obtain ⟨_, l11_, E⟩ := E.lp (zkx hg o12_)
 rotate_left
 cases h
 all_goals
  cases h
  refine E.s fun n x g0_ => ?_
  first | (have := l11_; refine zt ?_; refine zaf (l11_.1 n YJ g0_ _ _ ?_ ?_ ?_ ?_ _ _ ?_); (iterate 4 exact zs); simp only [zdG]; intro e m i0 i1 i2; rcases zFO i0 with _ | ⟨lr0, _, _, _, _⟩ <;> (simp -dsimp -implicitDefEqProofs only [go_sem, *, simprocAttr] <;> simp -dsimp -implicitDefEqProofs only [go_sem, func57, f57, zd1, *, simprocAttr])) | (simp -dsimp -implicitDefEqProofs only [go_sem, *, simprocAttr] <;> simp -dsimp -implicitDefEqProofs only [go_sem, func57, f57, zd1, *, simprocAttr])
def zf2 (c14 : Int) (c16 : zam) (g0_ : Nat) (K : YK) (R : YL) : Out (zam × Bool × zab) (zab × zam × List zaj) -> Prop
 | .ret r => ∀ (e : Env) (m : Mem), zJx (e 4) m 4 2 (fun d => [(.int .i64 r.1.coeff), d]) [80] 11 zaz r.1.factors -> e 5 = (.bool r.2.1) -> m (.arg 0) = some (.rows g0_ false true 1 [zag r.2.2]) -> K .ret ⟨e, m⟩ = R
 | .done q => False
noncomputable def znT : Code := za4 f107 [1, 1, 1, 0, 0]
theorem znC {c14 : Int} {c16 : zam} {sz : Nat} (hg : zyZ sz) {kk : Nat} : ∀ {k : Nat} {s15 : zab} {s17 : zam} {s18 : List zaj} {out : Out (zam × Bool × zab) (zab × zam × List zaj)}, zb1 c14 c16 sz kk k s15 s17 s18 = some out -> ∃ N, ∀ n, N <= n -> ∀ k, N <= k -> ∀ g0_, ∀ (e : Env) (m : Mem), e 0 = .ptr (.arg 0) g0_ 0 0 -> e 1 = (.int .i64 c14) -> zb9 (e 4) m 4 2 (zaq c16) -> zNU (e 6) m 6 2 (fun d => [(.int .i64 s17.coeff), d]) [80] 11 zaz s18 -> m (.arg 0) = some (.rows g0_ false true 1 [zag s15]) -> ∀ (K : YK) (R : YL), zf2 c14 c16 g0_ K R out -> zbU (zbt cfg (dfn cfg n) n znT) K k ⟨e, m⟩ = R := by
 have ⟨_, _, hX, _⟩ := hg
 intro k
 induction k with
 | zero => intro s15 s17 s18 out h; cases h
 | succ k ih => ?_
 intro s15 s17 s18 out h
 have ih := fun x0 x1 x2 {out} => @ih x0 x1 x2 out
 unfold zb1 at h
 have E := evT
 obtain ⟨_, h1_, h⟩ := zaa h
 have E := E.and (hX s15 c14 (zah h1_))
 rcases zac h with ⟨h2_, h⟩ | ⟨h2_, h⟩
 have E := E.and (zax ((zgQ s15 c14).2.2) [94])
 rcases zac h with ⟨h3_, h⟩ | ⟨h3_, h⟩
 obtain ⟨_, h4_, h⟩ := zaa h
 have E := E.and (zjh ((zaR ((zgQ s15 c14).2.2) [94]).2) (zah h4_))
 rcases zac h with ⟨h5_, h⟩ | ⟨h5_, h⟩
 have b6_ := zan h5_
 rotate_left
 have b7_ := zal h5_
 obtain ⟨_, h8_, h⟩ := zaa h
 have h8_ := zah h8_
 try simp -dsimp -implicitDefEqProofs only [go_sem, simprocAttr] at h8_
 have E := E.and (zax ((zmb ((zaR ((zgQ s15 c14).2.2) [94]).2)).2.2) [42])
 rcases zac h with ⟨h9_, h⟩ | ⟨h9_, h⟩
 have b10_ := zan h9_
 rotate_left
 have b11_ := zal h9_
 rotate_left
 obtain ⟨_, h12_, h⟩ := zaa h
 have h12_ := zah h12_
 try simp -dsimp -implicitDefEqProofs only [go_sem, simprocAttr] at h12_
 have E := E.and (zax ((zaR ((zgQ s15 c14).2.2) [94]).2) [42])
 rcases zac h with ⟨h13_, h⟩ | ⟨h13_, h⟩
 have b14_ := zan h13_
 rotate_left
 have b15_ := zal h13_
 all_goals
  first | (cases h; refine E.l fun n k x => ?_) | refine E.c (ih _ _ _ h) fun n k x I => ?_
  intro g0_ e m i0 i1 i2 i3 i4 K R hK
  obtain ⟨_, _, _⟩ := i2
  obtain ⟨_, _, _, _, _, i3⟩ := i3
  rcases zsi i3 with ⟨_, _⟩ | ⟨_, _, _, _⟩ <;> (rw [zap]; (conv => lhs; arg 4; whnf); (first | (refine zt ?_; simp only [zf2] at hK; refine hK _ _ ?_ ?_ ?_; (iterate 3 (first | (focus (simp -dsimp -implicitDefEqProofs only [go_sem, *, simprocAttr]; done)) | (unfold zJx; simp -dsimp -implicitDefEqProofs only [go_sem, zd1, *, simprocAttr]; refine ⟨_, _, _, rfl, rfl, ?_⟩; simp -dsimp -implicitDefEqProofs only [go_sem, zd1, *, simprocAttr])))) | (refine zt ?_; refine zaf (I.1 g0_ _ _ ?_ ?_ ?_ ?_ ?_ _ _ hK); (iterate 5 (first | (focus (simp -dsimp -implicitDefEqProofs only [go_sem, *, simprocAttr]; done)) | (unfold zNU; simp -dsimp -implicitDefEqProofs only [go_sem, zd1, *, simprocAttr]; refine ⟨_, _, _, rfl, rfl, ?_⟩; simp -dsimp -implicitDefEqProofs only [go_sem, zd1, *, simprocAttr]))))))
def zcL (c7 : Int) (c8 : Bool) (c9 : zab) (c10 c11 : zam) (g0_ : Nat) (K : YK) (R : YL) : Out (zam × Bool × zab) (zab × Int) -> Prop
 | .ret r => ∀ (e : Env) (m : Mem), zJx (e 4) m 4 2 (fun d => [(.int .i64 r.1.coeff), d]) [80] 11 zaz r.1.factors -> e 5 = (.bool r.2.1) -> m (.arg 0) = some (.rows g0_ false true 1 [zag r.2.2]) -> K .ret ⟨e, m⟩ = R
 | .done q => ∀ (e : Env) (m : Mem), e 0 = .ptr (.arg 0) g0_ 0 0 -> e 1 = (.int .i64 c7) -> zb9 (e 4) m 4 2 (zaq c10) -> zb9 (e 6) m 6 2 (zaq (c11.setCoeff q.2)) -> m (.arg 0) = some (.rows g0_ false true 1 [zag q.1]) -> K .normal ⟨e, m⟩ = R
noncomputable def ziL : Code := za4 f107 [1, 1, 0, 1]
theorem ziz {c7 : Int} {c8 : Bool} {c9 : zab} {c10 c11 : zam} {sz : Nat} (hg : zyZ sz) {kk : Nat} {out : Out (zam × Bool × zab) (zab × Int)} (h : zdR c7 c8 c9 c10 c11 sz kk = some out) : ∃ N, ∀ n, N <= n -> ∀ g0_, ∀ (e : Env) (m : Mem), e 0 = .ptr (.arg 0) g0_ 0 0 -> e 1 = (.int .i64 c7) -> zb9 (e 4) m 4 2 (zaq c10) -> zb9 (e 6) m 6 2 (zaq c11) -> e 35 = (.bool (c8)) -> m (.arg 0) = some (.rows g0_ false true 1 [zag c9]) -> ∀ (K : YK) (R : YL), zcL c7 c8 c9 c10 c11 g0_ K R out -> zbt cfg (dfn cfg n) n ziL K ⟨e, m⟩ = R := by
 unfold zdR at h
 have E := evT
 rcases zac h with ⟨h16_, h⟩ | ⟨h16_, h⟩
 obtain ⟨_, h17_, h⟩ := zaa h
 have E := E.and (zjh c9 (zah h17_))
 rcases zac h with ⟨h18_, h⟩ | ⟨h18_, h⟩
 have b19_ := zan h18_
 have b20_ := zal b19_
 have E := E.and (zax ((zmb c9).2.2) [42])
 rcases zac h with ⟨h21_, h⟩ | ⟨h21_, h⟩
 have b22_ := zan h21_
 rotate_left
 have b23_ := zal h21_
 rotate_left
 have b24_ := zal h18_
 have b25_ := zan b24_
 all_goals
  cases h
  refine E.j fun n x => ?_
  intro g0_ e m i0 i1 i2 i3 i4 i5 K R hK
  obtain ⟨_, _, _⟩ := i2
  obtain ⟨_, _, _⟩ := i3
  (conv => lhs; arg 4; whnf)
  first | (refine zt ?_; simp only [zcL] at hK; refine hK _ _ ?_ ?_ ?_; (iterate 3 (first | (focus (simp -dsimp -implicitDefEqProofs only [go_sem, *, simprocAttr]; done)) | (unfold zJx; simp -dsimp -implicitDefEqProofs only [go_sem, zd1, *, simprocAttr]; refine ⟨_, _, _, rfl, rfl, ?_⟩; simp -dsimp -implicitDefEqProofs only [go_sem, zd1, *, simprocAttr])))) | (refine zt ?_; simp only [zcL] at hK; refine hK _ _ ?_ ?_ ?_ ?_ ?_; (iterate 5 exact zs))
def zf3 (c1 : Int) (c2 : zab) (c3 c4 : zam) (g0_ : Nat) (K : YK) (R : YL) (q : Bool) : Prop := ∀ (e : Env) (m : Mem), e 0 = .ptr (.arg 0) g0_ 0 0 -> e 1 = (.int .i64 c1) -> zb9 (e 4) m 4 2 (zaq c3) -> zb9 (e 6) m 6 2 (zaq c4) -> e 35 = (.bool (q)) -> m (.arg 0) = some (.rows g0_ false true 1 [zag c2]) -> K .normal ⟨e, m⟩ = R
noncomputable def ziM : Code := za4 f107 [1, 1, 0, 0]
theorem znD {c1 : Int} {c2 : zab} {c3 c4 : zam} {sz : Nat} (hg : zyZ sz) {kk : Nat} {out : Bool} (h : zc1 c1 c2 c3 c4 sz kk = some out) : ∃ N, ∀ n, N <= n -> ∀ g0_, ∀ (e : Env) (m : Mem), e 0 = .ptr (.arg 0) g0_ 0 0 -> e 1 = (.int .i64 c1) -> zb9 (e 4) m 4 2 (zaq c3) -> zb9 (e 6) m 6 2 (zaq c4) -> m (.arg 0) = some (.rows g0_ false true 1 [zag c2]) -> ∀ (K : YK) (R : YL), zf3 c1 c2 c3 c4 g0_ K R out -> zbt cfg (dfn cfg n) n ziM K ⟨e, m⟩ = R := by
 unfold zc1 at h
 have E := evT
 rcases zac h with ⟨h26_, h⟩ | ⟨h26_, h⟩
 have b27_ := zan h26_
 obtain ⟨y5, h28_, h⟩ := zaa h
 rcases yG ((decide (48 <= (y5.toNat : Int)))) with h29_ | h29_
 rotate_left
 rotate_left
 have b30_ := zal h26_
 all_goals
  cases h
  refine E.j fun n x => ?_
  intro g0_ e m i0 i1 i2 i3 i4 K R hK
  obtain ⟨_, _, _⟩ := i2
  obtain ⟨_, _, _⟩ := i3
  (conv => lhs; arg 4; whnf)
  refine zt ?_
  simp only [zf3] at hK
  refine hK _ _ ?_ ?_ ?_ ?_ ?_ ?_
  (iterate 6 exact zs)
theorem zpF {kk : Nat} {a : zab} {b : Int} {sz : Nat} (hg : zyZ sz) {r : zam × Bool × zab} (h : ze0 kk sz a b = some r) : ∃ N, ∀ n, N <= n -> ∀ g0_, dfn cfg n 107 [(.ptr (.arg 0) g0_ 0 0), (.int .i64 b)] [.rows g0_ false true 1 [zag a]] = some ⟨(.tup [(.agg (zaq r.1)), (.bool r.2.1)]), [.rows g0_ false true 1 [zag r.2.2]], []⟩ := by
 unfold ze0 at h
 have E := evT
 obtain ⟨q6, o32_, h⟩ := zaa h
 obtain ⟨_, l31_, E⟩ := E.lj (znD hg o32_)
 rcases zaw h with ⟨r36_, o35_, h⟩ | ⟨q13, o35_, h⟩
 obtain ⟨_, l34_, E⟩ := E.lj (ziz hg o35_)
 rotate_left
 obtain ⟨_, l37_, E⟩ := E.lj (ziz hg o35_)
 rcases zaw h with ⟨r40_, o39_, h⟩ | ⟨q23, o39_, h⟩
 obtain ⟨_, l38_, E⟩ := E.lp (znC hg o39_)
 rotate_left
 cases h
 all_goals
  cases h
  refine E.s fun n x g0_ => ?_
  have j0 := zeU cfg (dfn cfg n) n ziM
  (conv at j0 => intro k s; lhs; arg 4; whnf)
  have j1 := zeU cfg (dfn cfg n) n ziL
  (conv at j1 => intro k s; lhs; arg 4; whnf)
  simp -dsimp -implicitDefEqProofs only [go_sem, ↓j0, ↓j1, func107, f107, *, simprocAttr]
  refine zgv (l31_.1 n YJ g0_ _ _ ?_ ?_ ?_ ?_ ?_ _ _ ?_)
  (iterate 5 exact zs)
  simp only [zf3]
  intro e m i0 i1 i2 i3 i4 i5
  obtain ⟨_, _, _⟩ := i2
  obtain ⟨_, _, _⟩ := i3
  first | (have := l34_; (try simp -dsimp -implicitDefEqProofs only [go_sem, ↓j0, ↓j1, func107, f107, *, simprocAttr]); refine zgv (l34_.1 n YJ g0_ _ _ ?_ ?_ ?_ ?_ ?_ ?_ _ _ ?_); (iterate 6 exact zs); simp only [zcL]; intro e m i0 i1 i2; obtain ⟨_, _, _, _, _, i0⟩ := i0; rcases zFO i0 with _ | ⟨lr0, _, _, _, _⟩ <;> (simp -dsimp -implicitDefEqProofs only [go_sem, ↓j0, ↓j1, func107, f107, *, simprocAttr] <;> simp -dsimp -implicitDefEqProofs only [go_sem, ↓j0, ↓j1, func107, f107, zd1, *, simprocAttr])) | (have := l37_; (try simp -dsimp -implicitDefEqProofs only [go_sem, ↓j0, ↓j1, func107, f107, *, simprocAttr]); refine zgv (l37_.1 n YJ g0_ _ _ ?_ ?_ ?_ ?_ ?_ ?_ _ _ ?_); (iterate 6 exact zs); simp only [zcL]; intro e m i0 i1 i2 i3 i4; obtain ⟨_, _, _⟩ := i2; obtain ⟨_, _, _⟩ := i3; (try simp -dsimp -implicitDefEqProofs only [go_sem, ↓j0, ↓j1, func107, f107, *, simprocAttr]); refine zaf (l38_.1 n YJ g0_ _ _ ?_ ?_ ?_ ?_ ?_ _ _ ?_); (iterate 5 (first | (focus (simp -dsimp -implicitDefEqProofs only [go_sem, *, simprocAttr]; done)) | (unfold zNU; simp -dsimp -implicitDefEqProofs only [go_sem, zd1, *, simprocAttr]; refine ⟨_, _, _, rfl, rfl, ?_⟩; simp -dsimp -implicitDefEqProofs only [go_sem, zd1, *, simprocAttr]))); simp only [zf2]; intro e m i0 i1 i2; obtain ⟨_, _, _, _, _, i0⟩ := i0; rcases zFO i0 with _ | ⟨lr0, _, _, _, _⟩ <;> (simp -dsimp -implicitDefEqProofs only [go_sem, ↓j0, ↓j1, func107, f107, *, simprocAttr] <;> simp -dsimp -implicitDefEqProofs only [go_sem, ↓j0, ↓j1, func107, f107, zd1, *, simprocAttr]))
def zf4 (c1 : Int) (c2 : zab) (c3 c4 : zas) (g0_ : Nat) (K : YK) (R : YL) (q : zab × Int) : Prop := ∀ (e : Env) (m : Mem), e 0 = .ptr (.arg 0) g0_ 0 0 -> e 1 = (.int .i64 c1) -> zb9 (e 4) m 4 10 (zbQ c3) -> zb9 (e 6) m 6 10 (zbQ (c4.setKind q.2)) -> m (.arg 0) = some (.rows g0_ false true 1 [zag q.1]) -> K .normal ⟨e, m⟩ = R
noncomputable def ziN : Code := za4 f147 [1, 1, 0]
theorem znE {c1 : Int} {c2 : zab} {c3 c4 : zas} {sz : Nat} (hg : zyZ sz) {kk : Nat} {out : zab × Int} (h : zdS c1 c2 c3 c4 sz kk = some out) : ∃ N, ∀ n, N <= n -> ∀ g0_, ∀ (e : Env) (m : Mem), e 0 = .ptr (.arg 0) g0_ 0 0 -> e 1 = (.int .i64 c1) -> zb9 (e 4) m 4 10 (zbQ c3) -> zb9 (e 6) m 6 10 (zbQ c4) -> m (.arg 0) = some (.rows g0_ false true 1 [zag c2]) -> ∀ (K : YK) (R : YL), zf4 c1 c2 c3 c4 g0_ K R out -> zbt cfg (dfn cfg n) n ziN K ⟨e, m⟩ = R := by
 obtain ⟨N1, t1⟩ := zax c2 zfa
 obtain ⟨N2, t2⟩ := zax c2 zfb
 obtain ⟨N3, t3⟩ := zax c2 zc3
 obtain ⟨N4, t4⟩ := zax c2 zji
 unfold zdS at h
 refine ⟨N1 + N2 + N3 + N4 + 6, fun n hn g0_ e m i0 i1 i2 i3 i4 K R hK => ?_⟩
 conv => lhs; arg 4; whnf
 obtain ⟨_, f1, f2⟩ := i2
 obtain ⟨_, f3, f4⟩ := i3
 simp -dsimp -implicitDefEqProofs only [go_sem, i0, i1, f1, f2, f3, f4, i4, simprocAttr]
 refine zaf (zKp c1 c2 c3 c4 n g0_ (zck (m (.loc 18 0))) (zck (m (.loc 16 0))) _ R (t1 n YJ) (t2 n YJ) (t3 n YJ) (t4 n YJ) ?_ 5 [] (by decide) (by simp) n YJ _ _ ?_ ?_ ?_ ?_ ?_ ?_ ?_ ?_)
 · intro x w hx e m a0 a1 a2 a3 a4
   rw [hx] at h; cases h
   exact (if_pos rfl).trans (hK e m a0 a1 a2 a3 a4)
 · simp -dsimp -implicitDefEqProofs only [go_sem, i0, i1, f1, f2, f3, f4, i4, simprocAttr]
 · simp -dsimp -implicitDefEqProofs only [go_sem, i0, i1, f1, f2, f3, f4, i4, simprocAttr]
 · simp -dsimp -implicitDefEqProofs only [zb9, go_sem, i0, i1, f1, f2, f3, f4, i4, simprocAttr]; exact ⟨_, rfl, rfl⟩
 · simp -dsimp -implicitDefEqProofs only [zb9, go_sem, i0, i1, f1, f2, f3, f4, i4, simprocAttr]; exact ⟨_, rfl, rfl⟩
 · simp -dsimp -implicitDefEqProofs only [go_sem, i0, i1, f1, f2, f3, f4, i4, simprocAttr]
 · simp -dsimp -implicitDefEqProofs only [go_sem, i0, i1, f1, f2, f3, f4, i4, simprocAttr]
 · simp -dsimp -implicitDefEqProofs only [go_sem, i0, i1, f1, f2, f3, f4, i4, simprocAttr]
 · simp -dsimp -implicitDefEqProofs only [go_sem, i0, i1, f1, f2, f3, f4, i4, simprocAttr]; rfl
theorem zpH {kk : Nat} {a : zab} {b : Int} {sz : Nat} (hg : zyZ sz) {r : zas × Bool × zab} (h : ze1 kk sz a b = some r) : ∃ N, ∀ n, N <= n -> ∀ g0_, dfn cfg n 147 [(.ptr (.arg 0) g0_ 0 0), (.int .i64 b)] [.rows g0_ false true 1 [zag a]] = some ⟨(.tup [(.agg (zbQ r.1)), (.bool r.2.1)]), [.rows g0_ false true 1 [zag r.2.2]], []⟩ := by
 have ⟨hA, _, _, hE⟩ := hg
 unfold ze1 at h
 have E := evT
 obtain ⟨q5, o2_, h⟩ := zaa h
 obtain ⟨_, l1_, E⟩ := E.lj (znE hg o2_)
 rcases zac h with ⟨h4_, h⟩ | ⟨h4_, h⟩
 obtain ⟨_, h5_, h⟩ := zaa h
 have E := E.and (zhP q5.1 [116, 46, 48, 49, 50, 51, 52, 53, 54, 55, 56, 57] (zah h5_))
 obtain ⟨_, h6_, h⟩ := zaa h
 have E := E.and (zB7 ((zne q5.1 [116, 46, 48, 49, 50, 51, 52, 53, 54, 55, 56, 57]).1) (zah h6_))
 rotate_left
 rcases zac h with ⟨h7_, h⟩ | ⟨h7_, h⟩
 obtain ⟨_, h8_, h⟩ := zaa h
 obtain ⟨_, l9_, E⟩ := E.lj (hE q5.1 (zas.zero.setKind q5.2) b (zah h8_))
 rcases zac h with ⟨h10_, h⟩ | ⟨h10_, h⟩
 have E := E.and (zax ((zds q5.1 (zas.zero.setKind q5.2) b).2.1) [93])
 rotate_left
 rotate_left
 obtain ⟨_, h11_, h⟩ := zaa h
 have E := E.and (hA q5.1 (wrap .i64 (b - 1)) (zah h11_))
 rcases zac h with ⟨h12_, h⟩ | ⟨h12_, h⟩
 obtain ⟨b13_, b14_⟩ := zbG h12_
 have E := E.and (zax ((zc4 q5.1 (wrap .i64 (b - 1))).2.2) [44, 32])
 rcases zac h with ⟨h15_, h⟩ | ⟨h15_, h⟩
 obtain ⟨_, h16_, h⟩ := zaa h
 have E := E.and (hA ((zaR ((zc4 q5.1 (wrap .i64 (b - 1))).2.2) [44, 32]).2) (wrap .i64 (b - 1)) (zah h16_))
 rcases zac h with ⟨h17_, h⟩ | ⟨h17_, h⟩
 have E := E.and (zax ((zc4 ((zaR ((zc4 q5.1 (wrap .i64 (b - 1))).2.2) [44, 32]).2) (wrap .i64 (b - 1))).2.2) [93])
 rotate_left
 rotate_left
 rotate_left
 rcases zbj h12_ with b18_ | ⟨b18_, b19_⟩
 rcases zac h with ⟨h20_, h⟩ | ⟨h20_, h⟩
 exact absurd (b18_.symm.trans h20_) (by decide)
 rotate_left
 rcases zac h with ⟨h21_, h⟩ | ⟨h21_, h⟩
 have E := E.and (zax ((zc4 q5.1 (wrap .i64 (b - 1))).2.2) [93])
 rotate_left
 exact absurd (b18_.symm.trans h21_) (by decide)
 all_goals
  cases h
  refine E.s fun n x g0_ => ?_
  have j0 := zeU cfg (dfn cfg n) n ziN
  (conv at j0 => intro k s; lhs; arg 4; whnf)
  first | (have := l9_; obtain ⟨gal9_, el9_⟩ := l9_.1 n YJ; have el9_ : ∀ g0_ g1_, dfn cfg n 175 [(.ptr (.arg 0) g0_ 0 0), (.ptr (.arg 1) g1_ 0 0), (.int .i64 b)] [.rows g0_ false true 1 [zag q5.1], .rows g1_ false true 10 [zbQ (zas.zero.setKind q5.2)]] = some ⟨(.bool ((zds q5.1 (zas.zero.setKind q5.2) b).1)), [.rows g0_ false true 1 [zag ((zds q5.1 (zas.zero.setKind q5.2) b).2.1)], .rows g1_ false (zRF (((zds q5.1 (zas.zero.setKind q5.2) b).2.2).items.l)) 10 [[(.int .i64 (((zds q5.1 (zas.zero.setKind q5.2) b).2.2).kind)), (.int .i64 ((((zds q5.1 (zas.zero.setKind q5.2) b).2.2).row).table)), (.int .i64 ((((zds q5.1 (zas.zero.setKind q5.2) b).2.2).row).seq)), (dSl (cSl zaq) (((zds q5.1 (zas.zero.setKind q5.2) b).2.2).args)), (.int .i64 (((zds q5.1 (zas.zero.setKind q5.2) b).2.2).func)), (zO6 (((zds q5.1 (zas.zero.setKind q5.2) b).2.2).items.l) (gal9_ g0_ g1_)), (.int .i64 (((zds q5.1 (zas.zero.setKind q5.2) b).2.2).op)), (.int .i64 ((((zds q5.1 (zas.zero.setKind q5.2) b).2.2).bound).kind)), (.int .i64 ((((zds q5.1 (zas.zero.setKind q5.2) b).2.2).bound).int)), (.str ((((zds q5.1 (zas.zero.setKind q5.2) b).2.2).bound).text))]]], zO7 (gal9_ g0_ g1_) 4 zao (((zds q5.1 (zas.zero.setKind q5.2) b).2.2).items.l)⟩ := el9_; rcases em2 (((zds q5.1 (zas.zero.setKind q5.2) b).2.2).items.l = []) with hl9_ | hl9_ <;> (simp only [zO6, zO7, zRF, hl9_, if_true, if_false, yr, yI] at el9_; simp -dsimp -implicitDefEqProofs only [go_sem, ↓j0, func147, f147, *, simprocAttr]; refine zgv (l1_.1 n YJ g0_ _ _ ?_ ?_ ?_ ?_ ?_ _ _ ?_); (iterate 5 exact zs); simp only [zf4]; intro e m i0 i1 i2 i3 i4; obtain ⟨_, _, _⟩ := i2; obtain ⟨_, _, _⟩ := i3; simp -dsimp -implicitDefEqProofs only [go_sem, ↓j0, func147, f147, *, simprocAttr] <;> simp -dsimp -implicitDefEqProofs only [go_sem, ↓j0, func147, f147, zd1, *, simprocAttr])) | (have := l1_; simp -dsimp -implicitDefEqProofs only [go_sem, ↓j0, func147, f147, *, simprocAttr]; refine zgv (l1_.1 n YJ g0_ _ _ ?_ ?_ ?_ ?_ ?_ _ _ ?_); (iterate 5 exact zs); simp only [zf4]; intro e m i0 i1 i2 i3 i4; obtain ⟨_, _, _⟩ := i2; obtain ⟨_, _, _⟩ := i3; simp -dsimp -implicitDefEqProofs only [go_sem, ↓j0, func147, f147, *, simprocAttr] <;> simp -dsimp -implicitDefEqProofs only [go_sem, ↓j0, func147, f147, zd1, *, simprocAttr])
def zcK (c2 : Int) (g0_ g1_ : Nat) (K : YK) (R : Option Res -> Prop) : Out (Bool × zab × zas) (zab × zas × List zae) -> Prop
 | .ret r => ∀ (e : Env) (m : Mem), e 6 = (.bool r.1) -> m (.arg 0) = some (.rows g0_ false true 1 [zag r.2.1]) -> zyF m 1 g1_ 10 (fun d => [(.int .i64 r.2.2.kind), (.int .i64 r.2.2.row.table), (.int .i64 r.2.2.row.seq), (dSl (cSl zaq) r.2.2.args), (.int .i64 r.2.2.func), d, (.int .i64 r.2.2.op), (.int .i64 r.2.2.bound.kind), (.int .i64 r.2.2.bound.int), (.str r.2.2.bound.text)]) [55] 4 zao r.2.2.items.l -> R (K .ret ⟨e, m⟩)
 | .done q => ∀ (e : Env) (m : Mem), e 1 = .ptr (.arg 1) g1_ 0 0 -> zGL (e 3) m 3 1 [(.ptr (.arg 0) g0_ 0 0)] -> m (.arg 0) = some (.rows g0_ false true 1 [zag q.1]) -> zyF m 1 g1_ 10 (fun d => [(.int .i64 q.2.1.kind), (.int .i64 q.2.1.row.table), (.int .i64 q.2.1.row.seq), (dSl (cSl zaq) q.2.1.args), (.int .i64 q.2.1.func), d, (.int .i64 q.2.1.op), (.int .i64 q.2.1.bound.kind), (.int .i64 q.2.1.bound.int), (.str q.2.1.bound.text)]) [55] 4 zao q.2.2 -> R (K (.exit 0) ⟨e, m⟩)
noncomputable def znS : Code := za4 f175 [1, 1, 0, 0, 0]
theorem ziy {c2 : Int} {sz : Nat} (hg : zyZ sz) {kk : Nat} : ∀ {k : Nat} {s3 : zab} {s4 : zas} {s5 : List zae} {out : Out (Bool × zab × zas) (zab × zas × List zae)}, zb0 c2 sz kk k s3 s4 s5 = some out -> ∃ N, ∀ n, N <= n -> ∀ k, N <= k -> ∀ g0_ g1_, ∀ (e : Env) (m : Mem), e 1 = .ptr (.arg 1) g1_ 0 0 -> e 2 = (.int .i64 c2) -> zGL (e 3) m 3 1 [(.ptr (.arg 0) g0_ 0 0)] -> m (.arg 0) = some (.rows g0_ false true 1 [zag s3]) -> zyF m 1 g1_ 10 (fun d => [(.int .i64 s4.kind), (.int .i64 s4.row.table), (.int .i64 s4.row.seq), (dSl (cSl zaq) s4.args), (.int .i64 s4.func), d, (.int .i64 s4.op), (.int .i64 s4.bound.kind), (.int .i64 s4.bound.int), (.str s4.bound.text)]) [55] 4 zao s5 -> ∀ (K : YK) (R : Option Res -> Prop), zcK c2 g0_ g1_ K R out -> R (zbU (zbt cfg (dfn cfg n) n znS) K k ⟨e, m⟩) := by
 have ⟨hA, _, _, _⟩ := hg
 intro k
 induction k with
 | zero => intro s3 s4 s5 out h; cases h
 | succ k ih => ?_
 intro s3 s4 s5 out h
 have ih := fun x0 x1 x2 {out} => @ih x0 x1 x2 out
 unfold zb0 at h
 have E := evT
 rcases zac h with ⟨h1_, h⟩ | ⟨h1_, h⟩
 obtain ⟨_, h2_, h⟩ := zaa h
 have E := E.and (ziK s3 (zah h2_))
 rcases zac h with ⟨h3_, h⟩ | ⟨h3_, h⟩
 have b4_ := zan h3_
 have b5_ := zal b4_
 have E := E.and (zax ((zlK s3).2.2) [58, 32])
 rcases zac h with ⟨h6_, h⟩ | ⟨h6_, h⟩
 have b7_ := zan h6_
 rotate_left
 have b8_ := zal h6_
 obtain ⟨_, h9_, h⟩ := zaa h
 have E := E.and (hA ((zaR ((zlK s3).2.2) [58, 32]).2) (wrap .i64 (c2 - 1)) (zah h9_))
 rcases zac h with ⟨h10_, h⟩ | ⟨h10_, h⟩
 have b11_ := zan h10_
 rotate_left
 have b12_ := zal h10_
 obtain ⟨_, h13_, h⟩ := zaa h
 have h13_ := zah h13_
 try simp -dsimp -implicitDefEqProofs only [go_sem, simprocAttr] at h13_
 have E := E.and (zax ((zc4 ((zaR ((zlK s3).2.2) [58, 32]).2) (wrap .i64 (c2 - 1))).2.2) [59, 32])
 rcases zac h with ⟨h14_, h⟩ | ⟨h14_, h⟩
 have b15_ := zan h14_
 rotate_left
 have b16_ := zal h14_
 rotate_left
 have b17_ := zal h3_
 have b18_ := zan b17_
 all_goals
  first | (cases h; refine E.l fun n k x => ?_) | refine E.c (ih _ _ _ h) fun n k x I => ?_
  intro g0_ g1_ e m i0 i1 i2 i3 i4 K R hK
  obtain ⟨_, _, _⟩ := i2
  obtain ⟨_, _, i4⟩ := i4
  rcases zsi i4 with ⟨_, _⟩ | ⟨_, _, _, _⟩ <;> (rw [zap]; (conv => arg 1; arg 4; whnf); (first | (refine zt ?_; simp only [zcK] at hK; refine hK _ _ ?_ ?_ ?_; (iterate 3 (first | (focus (simp -dsimp -implicitDefEqProofs only [go_sem, *, simprocAttr]; done)) | (unfold zyF; simp -dsimp -implicitDefEqProofs only [go_sem, zd1, *, simprocAttr]; refine ⟨_, rfl, ?_⟩; simp -dsimp -implicitDefEqProofs only [go_sem, zd1, *, simprocAttr])))) | (refine zt ?_; simp only [zcK] at hK; refine hK _ _ ?_ ?_ ?_ ?_; (iterate 4 (first | (focus (simp -dsimp -implicitDefEqProofs only [go_sem, *, simprocAttr]; done)) | (unfold zyF; simp -dsimp -implicitDefEqProofs only [go_sem, zd1, *, simprocAttr]; refine ⟨_, rfl, ?_⟩; simp -dsimp -implicitDefEqProofs only [go_sem, zd1, *, simprocAttr])))) | (refine zt ?_; refine zgo (I.1 g0_ g1_ _ _ ?_ ?_ ?_ ?_ ?_ _ _ hK); (iterate 5 (first | (focus (simp -dsimp -implicitDefEqProofs only [go_sem, *, simprocAttr]; done)) | (unfold zyF; simp -dsimp -implicitDefEqProofs only [go_sem, zd1, *, simprocAttr]; refine ⟨_, rfl, ?_⟩; simp -dsimp -implicitDefEqProofs only [go_sem, zd1, *, simprocAttr]))))))
def zn5 (r : Bool × zab × zas) (g0_ g1_ : Nat) (X : Option Res) : Prop := ∃ γ_, X = some ⟨(.bool r.1), [.rows g0_ false true 1 [zag r.2.1], .rows g1_ false (zRF (r.2.2.items.l)) 10 [[(.int .i64 r.2.2.kind), (.int .i64 r.2.2.row.table), (.int .i64 r.2.2.row.seq), (dSl (cSl zaq) r.2.2.args), (.int .i64 r.2.2.func), (zO6 (r.2.2.items.l) γ_), (.int .i64 r.2.2.op), (.int .i64 r.2.2.bound.kind), (.int .i64 r.2.2.bound.int), (.str r.2.2.bound.text)]]], zO7 γ_ 4 zao (r.2.2.items.l)⟩
theorem zo2 {kk : Nat} {a : zab} {b : zas} {c : Int} {sz : Nat} (hg : zyZ sz) {r : Bool × zab × zas} (h : zdy kk sz a b c = some r) : ∃ N, ∀ n, N <= n -> ∀ g0_ g1_, zn5 r g0_ g1_ (dfn cfg n 175 [(.ptr (.arg 0) g0_ 0 0), (.ptr (.arg 1) g1_ 0 0), (.int .i64 c)] [.rows g0_ false true 1 [zag a], .rows g1_ false true 10 [zbQ (b.setItems Sl.nil)]]) := by
 unfold zdy at h
 have E := evT
 have E := E.and (zk5 )
 obtain ⟨_, h19_, h⟩ := zaa h
 have E := E.and (zfH (zly) a (zah h19_))
 rcases zaw h with ⟨r22_, o21_, h⟩ | ⟨q9, o21_, h⟩
 obtain ⟨_, l20_, E⟩ := E.lp (ziy hg o21_)
 rotate_left
 obtain ⟨_, l23_, E⟩ := E.lp (ziy hg o21_)
 rcases zac h with ⟨h24_, h⟩ | ⟨h24_, h⟩
 have b25_ := zan h24_
 have E := E.and (zax q9.1 [125, 32])
 rcases zac h with ⟨h26_, h⟩ | ⟨h26_, h⟩
 have b27_ := zan h26_
 rotate_left
 have b28_ := zal h26_
 have E := E.and (zk4 )
 obtain ⟨_, h29_, h⟩ := zaa h
 have E := E.and (zfG (zgZ) ((zaR q9.1 [125, 32]).2) (zah h29_))
 obtain ⟨_, h30_, h⟩ := zaa h
 have E := E.and (ziK ((zxn (zgZ) ((zaR q9.1 [125, 32]).2)).2) (zah h30_))
 rcases yG ((decide (0 <= ((zxn (zgZ) ((zaR q9.1 [125, 32]).2)).1)))) with h31_ | h31_
 rotate_left
 rotate_left
 have b32_ := zal h24_
 all_goals
  cases h
  refine E.s fun n x g0_ g1_ => ?_
  first | (have := l20_; refine zt ?_; refine zgo (l20_.1 n YJ g0_ g1_ _ _ ?_ ?_ ?_ ?_ ?_ _ _ ?_); (iterate 5 (first | (focus (simp -dsimp -implicitDefEqProofs only [go_sem, *, simprocAttr]; done)) | (unfold zyF; simp -dsimp -implicitDefEqProofs only [go_sem, zd1, *, simprocAttr]; refine ⟨_, rfl, ?_⟩; simp -dsimp -implicitDefEqProofs only [go_sem, zd1, *, simprocAttr]))); simp only [zcK]; intro e m i0 i1 i2; obtain ⟨_, _, i2⟩ := i2; rcases zsi i2 with ⟨_, _⟩ | ⟨_, _, _, _⟩ <;> (refine zt ?_; (first | (refine ⟨0, ?_⟩; (try conv => lhs; simp -dsimp -implicitDefEqProofs only [go_sem, func175, f175, zd1, *, simprocAttr]); (conv => rhs; simp -dsimp -implicitDefEqProofs only [go_sem, func175, f175, zd1, zO6, zO7, *, simprocAttr]); (try rfl); done) | (apply Exists.intro; (try conv => lhs; simp -dsimp -implicitDefEqProofs only [go_sem, func175, f175, zd1, *, simprocAttr]); (conv => rhs; simp -dsimp -implicitDefEqProofs only [go_sem, func175, f175, zd1, zO6, zO7, *, simprocAttr]); (try rfl); done)))) | (have := l23_; refine zt ?_; refine zgo (l23_.1 n YJ g0_ g1_ _ _ ?_ ?_ ?_ ?_ ?_ _ _ ?_); (iterate 5 (first | (focus (simp -dsimp -implicitDefEqProofs only [go_sem, *, simprocAttr]; done)) | (unfold zyF; simp -dsimp -implicitDefEqProofs only [go_sem, zd1, *, simprocAttr]; refine ⟨_, rfl, ?_⟩; simp -dsimp -implicitDefEqProofs only [go_sem, zd1, *, simprocAttr]))); simp only [zcK]; intro e m i0 i1 i2 i3; obtain ⟨_, _, _⟩ := i1; obtain ⟨_, _, i3⟩ := i3; rcases zsi i3 with ⟨_, _⟩ | ⟨_, _, _, _⟩ <;> (refine zt ?_; (first | (refine ⟨0, ?_⟩; (try conv => lhs; simp -dsimp -implicitDefEqProofs only [go_sem, func175, f175, zd1, *, simprocAttr]); (conv => rhs; simp -dsimp -implicitDefEqProofs only [go_sem, func175, f175, zd1, zO6, zO7, *, simprocAttr]); (try rfl); done) | (apply Exists.intro; (try conv => lhs; simp -dsimp -implicitDefEqProofs only [go_sem, func175, f175, zd1, *, simprocAttr]); (conv => rhs; simp -dsimp -implicitDefEqProofs only [go_sem, func175, f175, zd1, zO6, zO7, *, simprocAttr]); (try rfl); done))))
theorem zpE {kk : Nat} {a : zab} {b : zas} {c : Int} {sz : Nat} (hg : zyZ sz) {r : Bool × zab × zas} (h : zdy kk sz a b c = some r) : ∃ N, ∀ n, N <= n -> ∃ γ_ : Nat -> Nat -> Nat, ∀ g0_ g1_,  dfn cfg n 175 [(.ptr (.arg 0) g0_ 0 0), (.ptr (.arg 1) g1_ 0 0), (.int .i64 c)] [.rows g0_ false true 1 [zag a], .rows g1_ false true 10 [zbQ (b.setItems Sl.nil)]] = some ⟨(.bool r.1), [.rows g0_ false true 1 [zag r.2.1], .rows g1_ false (zRF (r.2.2.items.l)) 10 [[(.int .i64 r.2.2.kind), (.int .i64 r.2.2.row.table), (.int .i64 r.2.2.row.seq), (dSl (cSl zaq) r.2.2.args), (.int .i64 r.2.2.func), (zO6 (r.2.2.items.l) (γ_ g0_ g1_)), (.int .i64 r.2.2.op), (.int .i64 r.2.2.bound.kind), (.int .i64 r.2.2.bound.int), (.str r.2.2.bound.text)]]], zO7 (γ_ g0_ g1_) 4 zao (r.2.2.items.l)⟩ := by
 obtain ⟨N, hN⟩ := zo2 hg h
 exact ⟨N, fun n hn => ⟨fun g0_ g1_ => (hN n hn g0_ g1_).choose, fun g0_ g1_ => (hN n hn g0_ g1_).choose_spec⟩⟩
theorem zJ0 : ∀ s : Nat, s < big -> zyZ s := by
 intro s
 induction s with
 | zero => intro _; exact ⟨fun _ _ h => absurd h YJ, fun _ _ h => absurd h YJ, fun _ _ h => absurd h YJ, fun _ _ _ h => absurd h YJ⟩
 | succ s ih =>
   intro hb
   have hg := ih YJ
   exact ⟨
    fun a b h => zlR (sz := s) hg (zkT (kk := big) (sz := s) h),
    fun a b h => zpF (sz := s) hg (znK (kk := big) (sz := s) h),
    fun a b h => zpH (sz := s) hg (znM (kk := big) (sz := s) h),
    fun a b c h => zpE (sz := s) hg (znJ (kk := big) (sz := s) h)⟩
theorem zl5 (a : zab) (b : Int) (h : (a.rest.length < lim /\ -1 <= b /\ b <= 8 /\ 4 * (b + 1).toNat + 3 < big - 1)) : ∃ N, ∀ n, N <= n -> ∀ g0_, dfn cfg n 57 [(.ptr (.arg 0) g0_ 0 0), (.int .i64 b)] [.rows g0_ false true 1 [zag a]] = some ⟨(.tup [(dSl zaq ((zc4 a b).1)), (.bool ((zc4 a b).2.1))]), [.rows g0_ false true 1 [zag ((zc4 a b).2.2)]], []⟩ := (zJ0 (big - 1) (by unfold big; omega)).1 a b h
noncomputable def zWs : Code := za4 f47 [1, 0, 0, 0]
theorem zRn : ∀ (j : Nat) (l : List Int) (x : Int), 0 <= x -> x < 128 ^ (j + 1) -> l.length + j < lim -> ∃ N, ∀ n, N <= n -> ∀ k, N <= k -> ∀ (g : Nat) (e : Env) (m : Mem), e 0 = .own (.arg 0) g 0 l.length -> m (.arg 0) = some (.rows g false true 1 (l.map (cI .u8))) -> e 1 = .int .u64 x ->
 ∀ (K : YK) (R : Option Res -> Prop), (∀ (g : Nat) (e : Env) (m : Mem), e 0 = .own (.arg 0) g 0 (zk8 j l x).1.length -> m (.arg 0) = some (.rows g false true 1 ((zk8 j l x).1.map (cI .u8))) -> e 1 = .int .u64 (zk8 j l x).2 -> R (K (.exit 0) ⟨e, m⟩)) ->
 R (zbU (zbt cfg (dfn cfg n) n zWs) K k ⟨e, m⟩) := by
 intro j
 induction j with
 | zero =>
   intro l x h0 h1 hl
   have hx : decide (128 <= x) = false := by simp; omega
   have E := evT
   refine E.l fun n k _ => ?_
   intro g e m i0 i1 i2 K R hK
   rw [zap]
   conv => arg 1; arg 4; whnf
   simp -dsimp -implicitDefEqProofs only [go_sem, *, simprocAttr]
   refine hK g _ _ ?_ ?_ ?_ <;> simp -dsimp -implicitDefEqProofs only [go_sem, zk8, *, simprocAttr]
 | succ j ih =>
   intro l x h0 h1 hl
   have E := evT
   by_cases hx : x < 128
   · have hx' : decide (128 <= x) = false := by simp; omega
     refine E.l fun n k _ => ?_
     intro g e m i0 i1 i2 K R hK
     simp only [zk8, if_pos hx] at hK
     rw [zap]
     conv => arg 1; arg 4; whnf
     simp -dsimp -implicitDefEqProofs only [go_sem, *, simprocAttr]
     refine hK g _ _ ?_ ?_ ?_ <;> simp -dsimp -implicitDefEqProofs only [go_sem, *, simprocAttr]
   · have hx' : decide (128 <= x) = true := by simp; omega
     have hs : zyK .u64 x 7 = x / 128 := by
      show Int.fdiv x (2 ^ min (7 : Int).toNat (IntKind.bits .u64)) = x / 128
      rw [show (2 : Int) ^ min (7 : Int).toNat (IntKind.bits .u64) = 128 from rfl, Int.fdiv_eq_ediv_of_nonneg _ YJ]
     obtain ⟨o1, o2⟩ : 0 <= zyK .u64 x 7 /\ zyK .u64 x 7 < 128 ^ (j + 1) := by
      rw [hs]; exact ⟨by omega, Int.ediv_lt_of_lt_mul YJ (by rw [Int.pow_succ] at h1; exact h1)⟩
     have hr : (l.length + 1) * 1 <= room := by unfold lim at hl; unfold room; omega
     simp -dsimp -implicitDefEqProofs only [go_sem, simprocAttr] at hr
     clear hs
     refine E.c (ih (l ++ [orK .u8 (wrap .u8 x) 128]) (zyK .u64 x 7) o1 o2 (by simp; omega)) fun n k _ I => ?_
     intro g e m i0 i1 i2 K R hK
     simp only [zk8, if_neg hx] at hK
     rw [zap]
     conv => arg 1; arg 4; whnf
     simp -dsimp -implicitDefEqProofs only [go_sem, *, simprocAttr]
     refine zgo (I.1 (g + 1) _ _ ?_ ?_ ?_ K R hK) <;> simp -dsimp -implicitDefEqProofs only [go_sem, *, simprocAttr]
def zZf (l : List Int) (X : Option Res) : Prop := ∃ γ, X = some ⟨.own (.arg 0) γ 0 l.length, [.rows γ false true 1 (l.map (cI .u8))], []⟩
theorem zP8 (l : List Int) (x : Int) (h0 : 0 <= x) (h1 : x < 18446744073709551616) (hl : l.length + 16 < lim) : ∃ N, ∀ n, N <= n -> ∀ g, zZf (zC6 l x) (dfn cfg n 47 [.own (.arg 0) g 0 l.length, .int .u64 x] [.rows g false true 1 (l.map (cI .u8))]) := by
 have E := evT
 obtain ⟨_, i1, E⟩ := E.lp (zRn 9 l x h0 (by simpa using Int.lt_trans h1 (by decide)) YJ)
 have hr : ((zk8 9 l x).1.length + 1) * 1 <= room := by have := zvj 9 l x; unfold lim at hl; unfold room; omega
 simp -dsimp -implicitDefEqProofs only [go_sem, simprocAttr] at hr
 refine E.s fun n q g => ?_
 simp -dsimp -implicitDefEqProofs only [go_sem, func47, f47, *, simprocAttr]
 refine zgo (i1.1 n YJ g _ _ ?_ ?_ ?_ _ _ ?_)
 · simp -dsimp -implicitDefEqProofs only [go_sem, *, simprocAttr]
 · simp -dsimp -implicitDefEqProofs only [go_sem, *, simprocAttr]
 · simp -dsimp -implicitDefEqProofs only [go_sem, *, simprocAttr]
 intro g e m i2 i3 i4
 simp -dsimp -implicitDefEqProofs only [go_sem, *, simprocAttr]
 simp only [zZf, zC6]
 simp -dsimp -implicitDefEqProofs only [go_sem, *, simprocAttr]
 exact ⟨_, rfl⟩
theorem zPy : ∀ (j : Nat) (l : List Int) (x : Int), 0 <= x -> x < 128 ^ (j + 1) -> l.length + j < lim -> ∃ N, ∀ n, N <= n -> ∀ k, N <= k -> ∀ (g : Nat) (e : Env) (m : Mem), e 0 = .own (.loc 12 0) g 0 l.length -> m (.loc 12 0) = some (.rows g false true 1 (l.map (cI .u8))) -> e 1 = .int .u64 x ->
 ∀ (K : YK) (R : Option Res -> Prop), (∀ (g : Nat) (e : Env) (m : Mem), e 0 = .own (.loc 12 0) g 0 (zk8 j l x).1.length -> m (.loc 12 0) = some (.rows g false true 1 ((zk8 j l x).1.map (cI .u8))) -> e 1 = .int .u64 (zk8 j l x).2 -> R (K (.exit 0) ⟨e, m⟩)) ->
 R (zbU (zbt cfg (dfn cfg n) n zWs) K k ⟨e, m⟩) := by
 intro j
 induction j with
 | zero =>
   intro l x h0 h1 hl
   have hx : decide (128 <= x) = false := by simp; omega
   have E := evT
   refine E.l fun n k _ => ?_
   intro g e m i0 i1 i2 K R hK
   rw [zap]
   conv => arg 1; arg 4; whnf
   simp -dsimp -implicitDefEqProofs only [go_sem, *, simprocAttr]
   refine hK g _ _ ?_ ?_ ?_ <;> simp -dsimp -implicitDefEqProofs only [go_sem, zk8, *, simprocAttr]
 | succ j ih =>
   intro l x h0 h1 hl
   have E := evT
   by_cases hx : x < 128
   · have hx' : decide (128 <= x) = false := by simp; omega
     refine E.l fun n k _ => ?_
     intro g e m i0 i1 i2 K R hK
     simp only [zk8, if_pos hx] at hK
     rw [zap]
     conv => arg 1; arg 4; whnf
     simp -dsimp -implicitDefEqProofs only [go_sem, *, simprocAttr]
     refine hK g _ _ ?_ ?_ ?_ <;> simp -dsimp -implicitDefEqProofs only [go_sem, *, simprocAttr]
   · have hx' : decide (128 <= x) = true := by simp; omega
     have hs : zyK .u64 x 7 = x / 128 := by
      show Int.fdiv x (2 ^ min (7 : Int).toNat (IntKind.bits .u64)) = x / 128
      rw [show (2 : Int) ^ min (7 : Int).toNat (IntKind.bits .u64) = 128 from rfl, Int.fdiv_eq_ediv_of_nonneg _ YJ]
     obtain ⟨o1, o2⟩ : 0 <= zyK .u64 x 7 /\ zyK .u64 x 7 < 128 ^ (j + 1) := by
      rw [hs]; exact ⟨by omega, Int.ediv_lt_of_lt_mul YJ (by rw [Int.pow_succ] at h1; exact h1)⟩
     have hr : (l.length + 1) * 1 <= room := by unfold lim at hl; unfold room; omega
     simp -dsimp -implicitDefEqProofs only [go_sem, simprocAttr] at hr
     clear hs
     refine E.c (ih (l ++ [orK .u8 (wrap .u8 x) 128]) (zyK .u64 x 7) o1 o2 (by simp; omega)) fun n k _ I => ?_
     intro g e m i0 i1 i2 K R hK
     simp only [zk8, if_neg hx] at hK
     rw [zap]
     conv => arg 1; arg 4; whnf
     simp -dsimp -implicitDefEqProofs only [go_sem, *, simprocAttr]
     refine zgo (I.1 (g + 1) _ _ ?_ ?_ ?_ K R hK) <;> simp -dsimp -implicitDefEqProofs only [go_sem, *, simprocAttr]
def zNV (l : List Int) (X : Option Res) : Prop := ∃ γ, X = some ⟨.own (.loc 0 0) γ 0 l.length, [], [.rows γ false true 1 (l.map (cI .u8))]⟩
theorem zNO (x : Int) (h0 : 0 <= x) (h1 : x < 18446744073709551616) : ∃ N, ∀ n, N <= n -> zNV (zC6 [] x) (dfn cfg n 47 [.sl .nil [], .int .u64 x] []) := by
 by_cases hx : x < 128
 · have hx' : decide (128 <= x) = false := by simp; omega
   refine ⟨2, fun n hn => ?_⟩
   obtain ⟨n, rfl⟩ : ∃ m, n = m + 2 := ⟨n - 2, by omega⟩
   have e : zC6 [] x = [wrap .u8 x] := by simp [zC6, zk8, hx]
   rw [e]
   simp -dsimp -implicitDefEqProofs only [go_sem, func47, f47, *, simprocAttr]
   refine zgo ?_
   rw [zap]
   simp -dsimp -implicitDefEqProofs only [go_sem, *, simprocAttr]
   simp only [zNV]
   simp -dsimp -implicitDefEqProofs only [go_sem, *, simprocAttr]
   exact ⟨_, rfl⟩
 · have hx' : decide (128 <= x) = true := by simp; omega
   have hs : zyK .u64 x 7 = x / 128 := by
    show Int.fdiv x (2 ^ min (7 : Int).toNat (IntKind.bits .u64)) = x / 128
    rw [show (2 : Int) ^ min (7 : Int).toNat (IntKind.bits .u64) = 128 from rfl, Int.fdiv_eq_ediv_of_nonneg _ YJ]
   obtain ⟨N, hN⟩ := zPy 8 ([orK .u8 (wrap .u8 x) 128]) (zyK .u64 x 7) (by rw [hs]; omega) (by rw [hs]; have : (128 : Int) ^ (8 + 1) = 9223372036854775808 := (by decide); omega) (by unfold lim; simp)
   clear hs
   have e : zC6 [] x = (zk8 8 [orK .u8 (wrap .u8 x) 128] (zyK .u64 x 7)).1 ++ [wrap .u8 (zk8 8 [orK .u8 (wrap .u8 x) 128] (zyK .u64 x 7)).2] := by
    unfold zC6; rw [zk8, if_neg hx]; rfl
   rw [e]
   have hr : ((zk8 8 [orK .u8 (wrap .u8 x) 128] (zyK .u64 x 7)).1.length + 1) * 1 <= room := by have := zvj 8 [orK .u8 (wrap .u8 x) 128] (zyK .u64 x 7); simp at this; unfold room; omega
   simp -dsimp -implicitDefEqProofs only [go_sem, simprocAttr] at hr
   refine ⟨N + 3, fun n hn => ?_⟩
   obtain ⟨n, rfl⟩ : ∃ m, n = m + 2 := ⟨n - 2, by omega⟩
   have I := zZe.mk (hN (n + 1) YJ n YJ 0)
   simp -dsimp -implicitDefEqProofs only [go_sem, func47, f47, *, simprocAttr]
   refine zgo ?_
   rw [zap]
   simp -dsimp -implicitDefEqProofs only [go_sem, *, simprocAttr]
   refine zgo (I.1 _ _ ?_ ?_ ?_ _ _ ?_)
   · simp -dsimp -implicitDefEqProofs only [go_sem, *, simprocAttr]
   · simp -dsimp -implicitDefEqProofs only [go_sem, *, simprocAttr]
   · simp -dsimp -implicitDefEqProofs only [go_sem, *, simprocAttr]
   intro g e m i2 i3 i4
   simp -dsimp -implicitDefEqProofs only [go_sem, *, simprocAttr]
   simp only [zNV]
   simp -dsimp -implicitDefEqProofs only [go_sem, *, simprocAttr]
   exact ⟨_, rfl⟩
theorem z0W (l : List Int) (s : Str) (h : l.length + s.length + 16 < lim) : ∃ N, ∀ n, N <= n -> ∀ g, zZf (zHn l s) (dfn cfg n 22 [.own (.arg 0) g 0 l.length, .str s] [.rows g false true 1 (l.map (cI .u8))]) := by
 have hb : 0 <= wrap .u64 (s.length : Int) /\ wrap .u64 (s.length : Int) < 18446744073709551616 := by
  have : wrap .u64 (s.length : Int) = (s.length : Int) % 18446744073709551616 := by simp [wrap, IntKind.bits, IntKind.signed]
  rw [this]; omega
 obtain ⟨N, hN⟩ := zP8 l (wrap .u64 (s.length : Int)) hb.1 hb.2 YJ
 have hr : ((zC6 l (wrap .u64 (s.length : Int))).length + (s2b s).length) * 1 <= room := by have := zIE l (wrap .u64 (s.length : Int)); simp [s2b]; unfold lim at h; unfold room; omega
 simp -dsimp -implicitDefEqProofs only [go_sem, simprocAttr] at hr
 have hro : ((s2b s).map (cI .u8)).all (fun r => List.length r == 1) = true := by simp [cI]
 refine ⟨N + 1, fun n hn g => ?_⟩
 obtain ⟨n, rfl⟩ := zS4 (show 0 + 1 <= n by omega)
 obtain ⟨γ, e⟩ := hN n YJ g
 simp only [zZf, zHn]
 simp -dsimp -implicitDefEqProofs only [go_sem, func22, f22, zDg, *, simprocAttr]
 exact ⟨_, rfl⟩
theorem zWo (s : Str) (h : s.length + 16 < lim) : ∃ N, ∀ n, N <= n -> zNV (zHn [] s) (dfn cfg n 22 [.sl .nil [], .str s] []) := by
 have hb : 0 <= wrap .u64 (s.length : Int) /\ wrap .u64 (s.length : Int) < 18446744073709551616 := by
  have : wrap .u64 (s.length : Int) = (s.length : Int) % 18446744073709551616 := by simp [wrap, IntKind.bits, IntKind.signed]
  rw [this]; omega
 obtain ⟨N, hN⟩ := zNO (wrap .u64 (s.length : Int)) hb.1 hb.2
 have hr : ((zC6 [] (wrap .u64 (s.length : Int))).length + (s2b s).length) * 1 <= room := by have := zIE [] (wrap .u64 (s.length : Int)); simp [s2b] at this ⊢; unfold lim at h; unfold room; omega
 simp -dsimp -implicitDefEqProofs only [go_sem, simprocAttr] at hr
 have hro : ((s2b s).map (cI .u8)).all (fun r => List.length r == 1) = true := by simp [cI]
 refine ⟨N + 1, fun n hn => ?_⟩
 obtain ⟨n, rfl⟩ := zS4 (show 0 + 1 <= n by omega)
 obtain ⟨γ, e⟩ := hN n YJ
 simp only [zNV, zHn]
 simp -dsimp -implicitDefEqProofs only [go_sem, func22, f22, zDg, *, simprocAttr]
 exact ⟨_, rfl⟩
theorem zu2 (x : Int) (h : 0 <= x /\ x < 18446744073709551616 /\ ([] : List Int).length + 16 < lim) : ∃ N, ∀ n, N <= n -> ∃ γ, dfn cfg n 47 [.sl .nil [], .int .u64 x] [] = some ⟨.own (.loc 0 0) γ 0 (zC6 [] x).length, [], [.rows γ false true 1 ((zC6 [] x).map (cI .u8))]⟩ := zNO x h.1 h.2.1
theorem zu1 (l : List Int) (x : Int) (h : 0 <= x /\ x < 18446744073709551616 /\ l.length + 16 < lim) : ∃ N, ∀ n, N <= n -> ∃ γ : Nat -> Nat, ∀ g, dfn cfg n 47 [.own (.arg 0) g 0 l.length, .int .u64 x] [.rows g false true 1 (l.map (cI .u8))] = some ⟨.own (.arg 0) (γ g) 0 (zC6 l x).length, [.rows (γ g) false true 1 ((zC6 l x).map (cI .u8))], []⟩ := by
 obtain ⟨N, hN⟩ := zP8 l x h.1 h.2.1 h.2.2
 exact ⟨N, fun n hn => ⟨fun g => (hN n hn g).choose, fun g => (hN n hn g).choose_spec⟩⟩
theorem zsP (s : Str) (h : ([] : List Int).length + s.length + 16 < lim) : ∃ N, ∀ n, N <= n -> ∃ γ, dfn cfg n 22 [.sl .nil [], .str s] [] = some ⟨.own (.loc 0 0) γ 0 (zHn [] s).length, [], [.rows γ false true 1 ((zHn [] s).map (cI .u8))]⟩ := zWo s (by simpa using h)
theorem zl0 (l : List Int) (s : Str) (h : l.length + s.length + 16 < lim) : ∃ N, ∀ n, N <= n -> ∃ γ : Nat -> Nat, ∀ g, dfn cfg n 22 [.own (.arg 0) g 0 l.length, .str s] [.rows g false true 1 (l.map (cI .u8))] = some ⟨.own (.arg 0) (γ g) 0 (zHn l s).length, [.rows (γ g) false true 1 ((zHn l s).map (cI .u8))], []⟩ := by
 obtain ⟨N, hN⟩ := z0W l s h
 exact ⟨N, fun n hn => ⟨fun g => (hN n hn g).choose, fun g => (hN n hn g).choose_spec⟩⟩
end Go.Proofs.Tryz
namespace Go.Proofs.Tryz
open Go.Ev
attribute [go_sem] func3 f3 func6 f6 func8 f8 func9 f9 func10 f10 func17 f17 func18 f18 func20 f20 func23 f23 func24 f24 func25 f25 func26 f26 func27 f27 func28 f28 func29 f29 func30 f30 func32 f32 func39 f39 func41 f41 func48 f48 func49 f49 func53 f53 func55 f55 func56 f56 func58 f58 func105 f105
theorem zwk {kk : Nat} {a : Str} {r : (Sl zam) × Int} (h : zig kk a = some r) : Ev cfg 31 [(.str a)] (.tup [(dSl zaq r.1), (.int .i64 r.2)]) := by
 unfold zig at h
 have E := evT
 obtain ⟨_, h1_, h⟩ := zaa h
 have E := E.and (zl5 (zab.zero.setRest a) 8 (zah h1_))
 rcases zac h with ⟨h2_, h⟩ | ⟨h2_, h⟩
 have b3_ := zan h2_
 obtain ⟨b4_, b5_⟩ := zaK b3_
 have b6_ := zal b4_
 have b7_ := zal b5_
 obtain ⟨_, h8_, h⟩ := zaa h
 have E := E.and (zkW ((zc4 (zab.zero.setRest a) 8).1) (zah h8_))
 rcases zac h with ⟨h9_, h⟩ | ⟨h9_, h⟩
 have b10_ := zan h9_
 have b11_ := zal b10_
 obtain ⟨_, h12_, h⟩ := zaa h
 have E := E.and (zpQ ((zc4 (zab.zero.setRest a) 8).1) (zah h12_))
 rcases zac h with ⟨h13_, h⟩ | ⟨h13_, h⟩
 have b14_ := zan h13_
 rotate_left
 have b15_ := zal h13_
 rotate_left
 have b16_ := zal h9_
 have b17_ := zan b16_
 rotate_left
 have b18_ := zal h2_
 rcases zbL b18_ with b19_ | ⟨b19_, b20_⟩
 have b21_ := zan b19_
 rotate_left
 have b22_ := zal b19_
 have b23_ := zan b20_
 all_goals
  cases h
  refine E.s fun n x => ?_
  (try simp only [zew, go_sem] at x)
  simp -dsimp -implicitDefEqProofs only [go_sem, func31, f31, zew, *, simprocAttr]
theorem zwN (a : Str) (h : 5 * a.length < lim) : Ev cfg 31 [(.str a)] (.tup [(dSl zaq ((zib a).1)), (.int .i64 ((zib a).2))]) := zwk (zsU (kk := big) a h)
theorem zuY {kk : Nat} {a : (Sl zam)} {r : Str} (h : zhO kk a = some r) : Ev cfg 24 [(dSl zaq a)] (.str r) := by
 unfold zhO at h
 have E := evT
 obtain ⟨_, h1_, h⟩ := zaa h
 have E := E.and (zkW a (zah h1_))
 rcases zac h with ⟨h2_, h⟩ | ⟨h2_, h⟩
 have b3_ := zan h2_
 rotate_left
 have b4_ := zal h2_
 obtain ⟨_, h5_, h⟩ := zaa h
 have E := E.and (zpQ a (zah h5_))
 all_goals
  cases h
  refine E.s fun n x => ?_
  exact zs
theorem zva (a : (Sl zam)) (h : zbB a.l /\ 20 * zak a.l + 1 < lim) : Ev cfg 24 [(dSl zaq a)] (.str (ziv a)) := zuY (zrR 0 a h)
theorem zGG {kk : Nat} {a : (Sl zam)} {r : Str} (h : zoD kk a = some r) : Ev cfg 28 [(dSl zaq a)] (.str r) := by
 unfold zoD at h
 have E := evT
 obtain ⟨_, h1_, h⟩ := zaa h
 have E := E.and (zBg a (zah h1_))
 rcases zac h with ⟨h2_, h⟩ | ⟨h2_, h⟩
 have b3_ := zan h2_
 rotate_left
 have b4_ := zal h2_
 obtain ⟨_, h5_, h⟩ := zaa h
 have E := E.and (zLd a (zah h5_))
 all_goals
  cases h
  refine E.s fun n x => ?_
  exact zs
theorem zGP (a : (Sl zam)) (h : zbB a.l /\ 20 * zak a.l + 1 < lim) : Ev cfg 28 [(dSl zaq a)] (.str (ziv a)) := zGG (zBa 0 a h)
def zjz (c1 : Sl Val) (c2 : Int) (K : YK) (R : YL) : Out (Bool) (Int) -> Prop
 | .ret r => ∀ (e : Env) (m : Mem), e 4 = (.bool r) -> K .ret ⟨e, m⟩ = R
 | .done q => ∀ (e : Env) (m : Mem), e 0 = (dSl zd0 c1) -> e 1 = (.int .i64 c2) -> K (.exit 0) ⟨e, m⟩ = R
noncomputable def zCe : Code := za4 f39 [1, 0, 1, 0, 0]
theorem zur {c1 : Sl Val} {c2 : Int} {kk : Nat} : ∀ {k : Nat} {s3 : Int} {out : Out (Bool) (Int)}, zhI c1 c2 kk k s3 = some out -> ∃ N, ∀ n, N <= n -> ∀ k, N <= k -> ∀ (e : Env) (m : Mem), e 0 = (dSl zd0 c1) -> e 1 = (.int .i64 c2) -> e 5 = (.int .i64 s3) -> ∀ (K : YK) (R : YL), zjz c1 c2 K R out -> zbU (zbt cfg (dfn cfg n) n zCe) K k ⟨e, m⟩ = R := by
 intro k
 induction k with
 | zero => intro s3 out h; cases h
 | succ k ih => ?_
 intro s3 out h
 have ih := fun x0 {out} => @ih x0 out
 unfold zhI at h
 have E := evT
 rcases zac h with ⟨h1_, h⟩ | ⟨h1_, h⟩
 obtain ⟨y4, h2_, h⟩ := zaa h
 obtain ⟨_, h3_⟩ := zaA h2_
 have h3_ := zav h3_ zd0
 rcases zac h with ⟨h4_, h⟩ | ⟨h4_, h⟩
 all_goals
  first | (cases h; refine E.l fun n k x => ?_) | refine E.c (ih _ h) fun n k x I => ?_
  intro e m i0 i1 i2 K R hK
  rw [zap]
  (conv => lhs; arg 4; whnf)
  first | (refine zt ?_; simp only [zjz] at hK; refine hK _ _ ?_; exact zs) | (refine zt ?_; refine zaf (I.1 _ _ ?_ ?_ ?_ _ _ hK); (iterate 3 exact zs)) | (refine zt ?_; simp only [zjz] at hK; refine hK _ _ ?_ ?_; (iterate 2 exact zs))
theorem zIq {kk : Nat} {a : (Sl Val)} {b : Int} {r : Bool} (h : zq5 kk a b = some r) : Ev cfg 39 [(dSl zd0 a), (.int .i64 b)] (.bool r) := by
 unfold zq5 at h
 have E := evT
 rcases zaw h with ⟨r7_, o6_, h⟩ | ⟨q5, o6_, h⟩
 obtain ⟨_, l5_, E⟩ := E.lp (zur o6_)
 rotate_left
 obtain ⟨_, l8_, E⟩ := E.lp (zur o6_)
 all_goals
  cases h
  refine E.s fun n x => ?_
  first | (have := l5_; refine zt ?_; refine zaf (l5_.1 n YJ _ _ ?_ ?_ ?_ _ _ ?_); (iterate 3 exact zs); simp only [zjz]; intro e m i0; exact zs) | (have := l8_; refine zt ?_; refine zaf (l8_.1 n YJ _ _ ?_ ?_ ?_ _ _ ?_); (iterate 3 exact zs); simp only [zjz]; intro e m i0 i1; exact zs)
theorem zIv (a : (Sl Val)) (b : Int) (h : a.l.length < big - 1) : Ev cfg 39 [(dSl zd0 a), (.int .i64 b)] (.bool (zE5 a b)) := zIq (zB5 (kk := big) a b h)
def zfg (c1 c2 : Sl Val) (K : YK) (R : YL) : Out (Int) (Int) -> Prop
 | .ret r => ∀ (e : Env) (m : Mem), e 4 = (.int .i64 r) -> K .ret ⟨e, m⟩ = R
 | .done q => ∀ (e : Env) (m : Mem), e 0 = (dSl zd0 c1) -> e 1 = (dSl zd0 c2) -> K (.exit 0) ⟨e, m⟩ = R
noncomputable def zt3 : Code := za4 f58 [1, 0, 1, 0, 0]
theorem zml {c1 c2 : Sl Val} {kk : Nat} : ∀ {k : Nat} {s3 : Int} {out : Out (Int) (Int)}, zf5 c1 c2 kk k s3 = some out -> ∃ N, ∀ n, N <= n -> ∀ k, N <= k -> ∀ (e : Env) (m : Mem), e 0 = (dSl zd0 c1) -> e 1 = (dSl zd0 c2) -> e 5 = (.int .i64 s3) -> ∀ (K : YK) (R : YL), zfg c1 c2 K R out -> zbU (zbt cfg (dfn cfg n) n zt3) K k ⟨e, m⟩ = R := by
 intro k
 induction k with
 | zero => intro s3 out h; cases h
 | succ k ih => ?_
 intro s3 out h
 have ih := fun x0 {out} => @ih x0 out
 unfold zf5 at h
 have E := evT
 rcases zac h with ⟨h1_, h⟩ | ⟨h1_, h⟩
 obtain ⟨b2_, b3_⟩ := zbG h1_
 obtain ⟨y4, h4_, h⟩ := zaa h
 obtain ⟨_, h5_⟩ := zaA h4_
 have h5_ := zav h5_ zd0
 obtain ⟨y5, h6_, h⟩ := zaa h
 obtain ⟨_, h7_⟩ := zaA h6_
 have h7_ := zav h7_ zd0
 have E := E.and (zrb y4 y5)
 rcases zac h with ⟨h8_, h⟩ | ⟨h8_, h⟩
 rotate_left
 rotate_left
 rcases zbj h1_ with b9_ | ⟨b9_, b10_⟩
 all_goals
  first | (cases h; refine E.l fun n k x => ?_) | refine E.c (ih _ h) fun n k x I => ?_
  intro e m i0 i1 i2 K R hK
  rw [zap]
  (conv => lhs; arg 4; whnf)
  first | (refine zt ?_; simp only [zfg] at hK; refine hK _ _ ?_; exact zs) | (refine zt ?_; refine zaf (I.1 _ _ ?_ ?_ ?_ _ _ hK); (iterate 3 exact zs)) | (refine zt ?_; simp only [zfg] at hK; refine hK _ _ ?_ ?_; (iterate 2 exact zs))
theorem zxG {kk : Nat} {a : (Sl Val)} {b : (Sl Val)} {r : Int} (h : zi9 kk a b = some r) : Ev cfg 58 [(dSl zd0 a), (dSl zd0 b)] (.int .i64 r) := by
 unfold zi9 at h
 have E := evT
 rcases zaw h with ⟨r13_, o12_, h⟩ | ⟨q6, o12_, h⟩
 obtain ⟨_, l11_, E⟩ := E.lp (zml o12_)
 rotate_left
 obtain ⟨_, l14_, E⟩ := E.lp (zml o12_)
 rcases zac h with ⟨h15_, h⟩ | ⟨h15_, h⟩
 rotate_left
 have E := E.and (ztw (decide ((a.l.length : Int) < (b.l.length : Int))))
 all_goals
  cases h
  refine E.s fun n x => ?_
  first | (have := l11_; refine zt ?_; refine zaf (l11_.1 n YJ _ _ ?_ ?_ ?_ _ _ ?_); (iterate 3 exact zs); simp only [zfg]; intro e m i0; exact zs) | (have := l14_; refine zt ?_; refine zaf (l14_.1 n YJ _ _ ?_ ?_ ?_ _ _ ?_); (iterate 3 exact zs); simp only [zfg]; intro e m i0 i1; exact zs)
theorem zx4 (a : (Sl Val)) (b : (Sl Val)) (h : a.l.length < big - 1 /\ b.l.length < big - 1) : Ev cfg 58 [(dSl zd0 a), (dSl zd0 b)] (.int .i64 (ztl a b)) := zxG (ztP (kk := big) a b h)
theorem zLb {kk : Nat} {a : (Sl Val)} {b : (Sl Val)} {r : Bool} (h : ztv kk a b = some r) : Ev cfg 32 [(dSl zd0 a), (dSl zd0 b)] (.bool r) := by
 unfold ztv at h
 have E := evT
 obtain ⟨_, h1_, h⟩ := zaa h
 have E := E.and (zx4 a b (zah h1_))
 cases h
 refine E.s fun n x => ?_
 exact zs
theorem zLg (a : (Sl Val)) (b : (Sl Val)) (h : a.l.length < big - 1 /\ b.l.length < big - 1) : Ev cfg 32 [(dSl zd0 a), (dSl zd0 b)] (.bool (zs7 a b)) := zLb (zEw (kk := big) a b h)
def zf1 (c1 : Sl Val) (c2 : Int) (K : YK) (R : YL) : Out (Bool) (Int) -> Prop
 | .ret r => ∀ (e : Env) (m : Mem), e 2 = (.bool r) -> K .ret ⟨e, m⟩ = R
 | .done q => ∀ (e : Env) (m : Mem), K (.exit 0) ⟨e, m⟩ = R
noncomputable def zvc : Code := za4 f48 [1, 0, 1, 0, 0]
theorem znB {c1 : Sl Val} {c2 : Int} {kk : Nat} : ∀ {k : Nat} {s3 : Int} {out : Out (Bool) (Int)}, zdL c1 c2 kk k s3 = some out -> ∃ N, ∀ n, N <= n -> ∀ k, N <= k -> ∀ (e : Env) (m : Mem), e 5 = (dSl zd0 c1) -> e 6 = (.int .i64 c2) -> e 7 = (.int .i64 s3) -> ∀ (K : YK) (R : YL), zf1 c1 c2 K R out -> zbU (zbt cfg (dfn cfg n) n zvc) K k ⟨e, m⟩ = R := by
 intro k
 induction k with
 | zero => intro s3 out h; cases h
 | succ k ih => ?_
 intro s3 out h
 have ih := fun x0 {out} => @ih x0 out
 unfold zdL at h
 have E := evT
 rcases zac h with ⟨h1_, h⟩ | ⟨h1_, h⟩
 obtain ⟨y4, h2_, h⟩ := zaa h
 obtain ⟨_, h3_⟩ := zaA h2_
 have h3_ := zav h3_ zd0
 have E := E.and (zje y4)
 rcases zac h with ⟨h4_, h⟩ | ⟨h4_, h⟩
 have b5_ := zan h4_
 rotate_left
 have b6_ := zal h4_
 all_goals
  first | (cases h; refine E.l fun n k x => ?_) | refine E.c (ih _ h) fun n k x I => ?_
  intro e m i0 i1 i2 K R hK
  rw [zap]
  (conv => lhs; arg 4; whnf)
  first | (refine zt ?_; simp only [zf1] at hK; refine hK _ _ ?_; exact zs) | (refine zt ?_; refine zaf (I.1 _ _ ?_ ?_ ?_ _ _ hK); (iterate 3 exact zs)) | (refine zt ?_; simp only [zf1] at hK; refine hK _ _)
theorem zyW {kk : Nat} {a : (Sl Val)} {r : Bool} (h : zh2 kk a = some r) : Ev cfg 48 [(dSl zd0 a)] (.bool r) := by
 unfold zh2 at h
 have E := evT
 rcases zaw h with ⟨r9_, o8_, h⟩ | ⟨q5, o8_, h⟩
 obtain ⟨_, l7_, E⟩ := E.lp (znB o8_)
 rotate_left
 obtain ⟨_, l10_, E⟩ := E.lp (znB o8_)
 all_goals
  cases h
  refine E.s fun n x => ?_
  first | (have := l7_; refine zt ?_; refine zaf (l7_.1 n YJ _ _ ?_ ?_ ?_ _ _ ?_); (iterate 3 exact zs); simp only [zf1]; intro e m i0; exact zs) | (have := l10_; refine zt ?_; refine zaf (l10_.1 n YJ _ _ ?_ ?_ ?_ _ _ ?_); (iterate 3 exact zs); simp only [zf1]; intro e m; exact zs)
theorem zBX {kk : Nat} {a r : Int} (h : zlG kk a = some r) : Ev cfg 49 [(.int .i64 a)] (.int .u64 r) := by
 unfold zlG at h
 have E := evT
 cases h
 refine E.s fun n x => ?_
 exact zs
def zg0 (c4 : Sl Val) (c5 : Int) (K : YK) (R : YL) : Out ((Sl Int)) (List Int × Int) -> Prop
 | .ret r => ∀ (e : Env) (m : Mem), zA3 (e 2) m [12] 1 (cI .u8) r -> K .ret ⟨e, m⟩ = R
 | .done q => ∀ (e : Env) (m : Mem), zNT (e 3) m 12 1 (cI .u8) q.1 -> K (.exit 0) ⟨e, m⟩ = R
noncomputable def zt4 : Code := za4 f23 [1, 1, 1, 0, 1, 0, 0]
theorem zmm {c4 : Sl Val} {c5 : Int} {kk : Nat} : ∀ {k : Nat} {s3 : List Int} {s6 : Int} {out : Out ((Sl Int)) (List Int × Int)}, zcm c4 c5 kk k s3 s6 = some out -> ∃ N, ∀ n, N <= n -> ∀ k, N <= k -> ∀ (e : Env) (m : Mem), zNT (e 3) m 12 1 (cI .u8) s3 -> e 13 = (dSl zd0 c4) -> e 14 = (.int .i64 c5) -> e 15 = (.int .i64 s6) -> ∀ (K : YK) (R : YL), zg0 c4 c5 K R out -> zbU (zbt cfg (dfn cfg n) n zt4) K k ⟨e, m⟩ = R := by
 intro k
 induction k with
 | zero => intro s3 s6 out h; cases h
 | succ k ih => ?_
 intro s3 s6 out h
 have ih := fun x0 x1 {out} => @ih x0 x1 out
 unfold zcm at h
 have E := evT
 rcases zac h with ⟨h1_, h⟩ | ⟨h1_, h⟩
 obtain ⟨y7, h2_, h⟩ := zaa h
 obtain ⟨_, h3_⟩ := zaA h2_
 have h3_ := zav h3_ zd0
 obtain ⟨_, h4_, h⟩ := zaa h
 have h4_ := zah h4_
 try simp -dsimp -implicitDefEqProofs only [go_sem, simprocAttr] at h4_
 rcases zac h with ⟨h5_, h⟩ | ⟨h5_, h⟩
 obtain ⟨r9, h6_, h⟩ := zaa h
 have E := E.and (zBX h6_)
 obtain ⟨_, h7_, h⟩ := zaa h
 obtain ⟨_, l8_, E⟩ := E.lj (zu1 (s3 ++ [(IntKind.wrap .u8 y7.kind)]) r9 (zah h7_))
 rotate_left
 rcases zac h with ⟨h9_, h⟩ | ⟨h9_, h⟩
 obtain ⟨_, h10_, h⟩ := zaa h
 obtain ⟨_, l11_, E⟩ := E.lj (zl0 (s3 ++ [(IntKind.wrap .u8 y7.kind)]) y7.text (zah h10_))
 rotate_left
 obtain ⟨_, h12_, h⟩ := zaa h
 have h12_ := zah h12_
 try simp -dsimp -implicitDefEqProofs only [go_sem, simprocAttr] at h12_
 all_goals
  first | (cases h; refine E.l fun n k x => ?_) | refine E.c (ih _ _ h) fun n k x I => ?_
  intro e m i0 i1 i2 i3 K R hK
  obtain ⟨_, _, _⟩ := i0
  rw [zap]
  (conv => lhs; arg 4; whnf)
  first | (have := l8_; obtain ⟨_, el8_⟩ := l8_.1 n YJ; (try replace el8_ := YM el8_); (try refine zt ?_); refine zaf (I.1 _ _ ?_ ?_ ?_ ?_ _ _ hK); (iterate 4 exact zs)) | (have := l11_; obtain ⟨_, el11_⟩ := l11_.1 n YJ; (try replace el11_ := YM el11_); (try refine zt ?_); refine zaf (I.1 _ _ ?_ ?_ ?_ ?_ _ _ hK); (iterate 4 exact zs)) | ((try refine zt ?_); refine zaf (I.1 _ _ ?_ ?_ ?_ ?_ _ _ hK); (iterate 4 exact zs)) | ((try refine zt ?_); simp only [zg0] at hK; refine hK _ _ ?_; exact zs)
theorem zxH {kk : Nat} {a : (Sl Val)} {r : (Sl Int)} (h : zhk kk a = some r) : Ev cfg 23 [(dSl zd0 a)] (dSl (cI .u8) r) := by
 unfold zhk at h
 have E := evT
 obtain ⟨r1, h13_, h⟩ := zaa h
 have E := E.and (zyW h13_)
 rcases zac h with ⟨h14_, h⟩ | ⟨h14_, h⟩
 have b15_ := zan h14_
 rotate_left
 have b16_ := zal h14_
 obtain ⟨_, h17_, h⟩ := zaa h
 obtain ⟨_, l18_, E⟩ := E.lj (zu2 (IntKind.wrap .u64 (a.l.length : Int)) (zah h17_))
 rcases zaw h with ⟨r21_, o20_, h⟩ | ⟨q13, o20_, h⟩
 obtain ⟨_, l19_, E⟩ := E.lp (zmm o20_)
 rotate_left
 obtain ⟨_, l22_, E⟩ := E.lp (zmm o20_)
 all_goals
  cases h
  refine E.s fun n x => ?_
  first | (have := l18_; obtain ⟨_, el18_⟩ := l18_.1 n YJ; (try replace el18_ := YM el18_); (first | (have := l19_; refine zt ?_; refine zaf (l19_.1 n YJ _ _ ?_ ?_ ?_ ?_ _ _ ?_); (iterate 4 exact zs); simp only [zg0]; intro e m i0; rcases zFO i0 with _ | ⟨lr0, _, _, _, _⟩ <;> (exact zs)) | (have := l22_; refine zt ?_; refine zaf (l22_.1 n YJ _ _ ?_ ?_ ?_ ?_ _ _ ?_); (iterate 4 exact zs); simp only [zg0]; intro e m i0; obtain ⟨_, _, _⟩ := i0; exact zs))) | (exact zs)
def ziC (c1 : Sl Int) (K : YK) (R : YL) : Out (Int × Int × Int) (Int × Int) -> Prop
 | .ret r => ∀ (e : Env) (m : Mem), e 2 = (.int .u64 r.1) -> e 3 = (.int .i64 r.2.1) -> e 4 = (.int .i64 r.2.2) -> K .ret ⟨e, m⟩ = R
 | .done q => ∀ (e : Env) (m : Mem), K (.exit 0) ⟨e, m⟩ = R
noncomputable def zBm : Code := za4 f55 [1, 1, 0, 1, 0, 0]
theorem zsL {c1 : Sl Int} {kk : Nat} : ∀ {k : Nat} {s2 s3 : Int} {out : Out (Int × Int × Int) (Int × Int)}, zh3 c1 kk k s2 s3 = some out -> ∃ N, ∀ n, N <= n -> ∀ k, N <= k -> ∀ (e : Env) (m : Mem), e 0 = (dSl (cI .u8) c1) -> e 5 = (.int .u64 s2) -> e 6 = (.int .i64 s3) -> ∀ (K : YK) (R : YL), ziC c1 K R out -> zbU (zbt cfg (dfn cfg n) n zBm) K k ⟨e, m⟩ = R := by
 intro k
 induction k with
 | zero => intro s2 s3 out h; cases h
 | succ k ih => ?_
 intro s2 s3 out h
 have ih := fun x0 x1 {out} => @ih x0 x1 out
 unfold zh3 at h
 have E := evT
 rcases zac h with ⟨h1_, h⟩ | ⟨h1_, h⟩
 obtain ⟨b2_, b3_⟩ := zbG h1_
 obtain ⟨y4, h4_, h⟩ := zaa h
 obtain ⟨_, h5_⟩ := zaA h4_
 have h5_ := zav h5_ (cI .u8)
 rcases zac h with ⟨h6_, h⟩ | ⟨h6_, h⟩
 obtain ⟨b7_, b8_⟩ := zbG h6_
 rotate_left
 rcases zbj h6_ with b9_ | ⟨b9_, b10_⟩
 obtain ⟨_, h11_, h⟩ := zaa h
 have h11_ := zah h11_
 try simp -dsimp -implicitDefEqProofs only [go_sem, simprocAttr] at h11_
 rcases zac h with ⟨h12_, h⟩ | ⟨h12_, h⟩
 rcases zac h with ⟨h13_, h⟩ | ⟨h13_, h⟩
 obtain ⟨b14_, b15_⟩ := zbG h13_
 rotate_left
 rcases zbj h13_ with b16_ | ⟨b16_, b17_⟩
 rotate_left
 rotate_left
 rotate_left
 obtain ⟨_, h18_, h⟩ := zaa h
 have h18_ := zah h18_
 try simp -dsimp -implicitDefEqProofs only [go_sem, simprocAttr] at h18_
 rcases zac h with ⟨h19_, h⟩ | ⟨h19_, h⟩
 rcases zac h with ⟨h20_, h⟩ | ⟨h20_, h⟩
 obtain ⟨b21_, b22_⟩ := zbG h20_
 rotate_left
 rcases zbj h20_ with b23_ | ⟨b23_, b24_⟩
 rotate_left
 rotate_left
 rotate_left
 rcases zbj h1_ with b25_ | ⟨b25_, b26_⟩
 all_goals
  first | (cases h; refine E.l fun n k x => ?_) | refine E.c (ih _ _ h) fun n k x I => ?_
  intro e m i0 i1 i2 K R hK
  rw [zap]
  (conv => lhs; arg 4; whnf)
  first | (refine zt ?_; simp only [ziC] at hK; refine hK _ _) | (refine zt ?_; simp only [ziC] at hK; refine hK _ _ ?_ ?_ ?_; (iterate 3 exact zs)) | (refine zt ?_; refine zaf (I.1 _ _ ?_ ?_ ?_ _ _ hK); (iterate 3 exact zs))
theorem zsE {kk : Nat} {a : (Sl Int)} {r : Int × Int × Int} (h : ziJ kk a = some r) : Ev cfg 55 [(dSl (cI .u8) a)] (.tup [(.int .u64 r.1), (.int .i64 r.2.1), (.int .i64 r.2.2)]) := by
 unfold ziJ at h
 have E := evT
 rcases zaw h with ⟨r29_, o28_, h⟩ | ⟨q6, o28_, h⟩
 obtain ⟨_, l27_, E⟩ := E.lp (zsL o28_)
 rotate_left
 obtain ⟨_, l30_, E⟩ := E.lp (zsL o28_)
 all_goals
  cases h
  refine E.s fun n x => ?_
  first | (have := l27_; refine zt ?_; refine zaf (l27_.1 n YJ _ _ ?_ ?_ ?_ _ _ ?_); (iterate 3 exact zs); simp only [ziC]; intro e m i0 i1 i2; exact zs) | (have := l30_; refine zt ?_; refine zaf (l30_.1 n YJ _ _ ?_ ?_ ?_ _ _ ?_); (iterate 3 exact zs); simp only [ziC]; intro e m; exact zs)
theorem zoW {kk : Nat} {a : (Sl Int)} {r : Str × Int × Int} (h : zgO kk a = some r) : Ev cfg 29 [(dSl (cI .u8) a)] (.tup [(.str r.1), (.int .i64 r.2.1), (.int .i64 r.2.2)]) := by
 unfold zgO at h
 have E := evT
 obtain ⟨r1, h1_, h⟩ := zaa h
 have E := E.and (zsE h1_)
 rcases zac h with ⟨h2_, h⟩ | ⟨h2_, h⟩
 rcases zbL h2_ with b3_ | ⟨b3_, b4_⟩
 rotate_left
 rotate_left
 obtain ⟨b5_, b6_⟩ := zaK h2_
 obtain ⟨y2, h7_, h⟩ := zaa h
 have h7_ : zfr prog (some (.int .i64 r1.2.1)) (some (.int .i64 (IntKind.wrap .i64 (r1.2.1 + (IntKind.wrap .i64 r1.1))))) none (dSl (cI .u8) a) (.slice 5) = pure (dSl (cI .u8) y2) := zmx h7_ ti5 (fun _ => rfl)
 all_goals
  cases h
  refine E.s fun n x => ?_
  exact zs
theorem zyU {kk : Nat} {a r : Int} (h : zh0 kk a = some r) : Ev cfg 105 [(.int .u64 a)] (.int .i64 r) := by
 unfold zh0 at h
 have E := evT
 cases h
 refine E.s fun n x => ?_
 exact zs
theorem zyV {kk : Nat} {a : (Sl Int)} {r : Val × (Sl Int) × Bool} (h : zh1 kk a = some r) : Ev cfg 56 [(dSl (cI .u8) a)] (.tup [(.agg (zd0 r.1)), (dSl (cI .u8) r.2.1), (.bool r.2.2)]) := by
 unfold zh1 at h
 have E := evT
 rcases zac h with ⟨h1_, h⟩ | ⟨h1_, h⟩
 rotate_left
 obtain ⟨y1, h2_, h⟩ := zaa h
 have h2_ := zav h2_ (cI .u8)
 obtain ⟨y2, h3_, h⟩ := zaa h
 have h3_ : zfr prog (some (.int .i64 1)) none none (dSl (cI .u8) a) (.slice 5) = pure (dSl (cI .u8) y2) := zmx h3_ ti5 (fun _ => rfl)
 rcases zac h with ⟨h4_, h⟩ | ⟨h4_, h⟩
 obtain ⟨r3, h5_, h⟩ := zaa h
 have E := E.and (zsE h5_)
 obtain ⟨r4, h6_, h⟩ := zaa h
 have E := E.and (zyU h6_)
 obtain ⟨y5, h7_, h⟩ := zaa h
 have h7_ : zfr prog (some (.int .i64 r3.2.1)) none none (dSl (cI .u8) y2) (.slice 5) = pure (dSl (cI .u8) y5) := zmx h7_ ti5 (fun _ => rfl)
 rotate_left
 rcases zac h with ⟨h8_, h⟩ | ⟨h8_, h⟩
 obtain ⟨r6, h9_, h⟩ := zaa h
 have E := E.and (zoW h9_)
 obtain ⟨y7, h10_, h⟩ := zaa h
 have h10_ : zfr prog (some (.int .i64 r6.2.1)) none none (dSl (cI .u8) y2) (.slice 5) = pure (dSl (cI .u8) y7) := zmx h10_ ti5 (fun _ => rfl)
 rotate_left
 rcases zac h with ⟨h11_, h⟩ | ⟨h11_, h⟩
 rcases zac h with ⟨h12_, h⟩ | ⟨h12_, h⟩
 obtain ⟨y8, h13_, h⟩ := zaa h
 have h13_ := zav h13_ (cI .u8)
 obtain ⟨y9, h14_, h⟩ := zaa h
 have h14_ : zfr prog (some (.int .i64 1)) none none (dSl (cI .u8) y2) (.slice 5) = pure (dSl (cI .u8) y9) := zmx h14_ ti5 (fun _ => rfl)
 all_goals
  cases h
  refine E.s fun n x => ?_
  exact zs
def zfh (K : YK) (R : YL) : Out ((Sl Val) × Int) (Sl Int × Int × List Val) -> Prop
 | .ret r => ∀ (e : Env) (m : Mem), zA3 (e 2) m [42] 3 zd0 r.1 -> e 3 = (.int .i64 r.2) -> K .ret ⟨e, m⟩ = R
 | .done q => ∀ (e : Env) (m : Mem), e 0 = (dSl (cI .u8) q.1) -> zqZ (e 7) m [42] 3 zd0 q.2.2 -> K (.exit 0) ⟨e, m⟩ = R
noncomputable def zt5 : Code := za4 f30 [1, 1, 1, 1, 1, 0, 0, 0]
theorem zmn {kk : Nat} : ∀ {k : Nat} {s3 : Sl Int} {s4 : Int} {s5 : List Val} {out : Out ((Sl Val) × Int) (Sl Int × Int × List Val)}, zdo kk k s3 s4 s5 = some out -> ∃ N, ∀ n, N <= n -> ∀ k, N <= k -> ∀ (e : Env) (m : Mem), e 0 = (dSl (cI .u8) s3) -> e 4 = (.int .u64 s4) -> zqZ (e 7) m [42] 3 zd0 s5 -> ∀ (K : YK) (R : YL), zfh K R out -> zbU (zbt cfg (dfn cfg n) n zt5) K k ⟨e, m⟩ = R := by
 intro k
 induction k with
 | zero => intro s3 s4 s5 out h; cases h
 | succ k ih => ?_
 intro s3 s4 s5 out h
 have ih := fun x0 x1 x2 {out} => @ih x0 x1 x2 out
 unfold zdo at h
 have E := evT
 rcases zac h with ⟨h1_, h⟩ | ⟨h1_, h⟩
 obtain ⟨r6, h2_, h⟩ := zaa h
 have E := E.and (zyV h2_)
 have E := E.and (zje r6.1)
 rcases zac h with ⟨h3_, h⟩ | ⟨h3_, h⟩
 rcases zbL h3_ with b4_ | ⟨b4_, b5_⟩
 have b6_ := zan b4_
 rotate_left
 have b7_ := zal b4_
 have b8_ := zan b5_
 rotate_left
 obtain ⟨b9_, b10_⟩ := zaK h3_
 have b11_ := zal b9_
 have b12_ := zal b10_
 obtain ⟨_, h13_, h⟩ := zaa h
 have h13_ := zah h13_
 try simp -dsimp -implicitDefEqProofs only [go_sem, simprocAttr] at h13_
 all_goals
  first | (cases h; refine E.l fun n k x => ?_) | refine E.c (ih _ _ _ h) fun n k x I => ?_
  intro e m i0 i1 i2 K R hK
  rcases zsi i2 with ⟨_, _⟩ | ⟨_, _, _, _⟩ <;> (rw [zap]; (conv => lhs; arg 4; whnf); (first | (refine zt ?_; simp only [zfh] at hK; refine hK _ _ ?_ ?_; (iterate 2 exact zs)) | (refine zt ?_; refine zaf (I.1 _ _ ?_ ?_ ?_ _ _ hK); (iterate 3 exact zs)) | (refine zt ?_; simp only [zfh] at hK; refine hK _ _ ?_ ?_; (iterate 2 exact zs))))
theorem zxI {kk : Nat} {a : (Sl Int)} {r : (Sl Val) × Int} (h : zhl kk a = some r) : Ev cfg 30 [(dSl (cI .u8) a)] (.tup [(dSl zd0 r.1), (.int .i64 r.2)]) := by
 unfold zhl at h
 have E := evT
 obtain ⟨r1, h14_, h⟩ := zaa h
 have E := E.and (zsE h14_)
 rcases zac h with ⟨h15_, h⟩ | ⟨h15_, h⟩
 rotate_left
 obtain ⟨y2, h16_, h⟩ := zaa h
 have h16_ : zfr prog (some (.int .i64 r1.2.1)) none none (dSl (cI .u8) a) (.slice 5) = pure (dSl (cI .u8) y2) := zmx h16_ ti5 (fun _ => rfl)
 rcases zaw h with ⟨r19_, o18_, h⟩ | ⟨q8, o18_, h⟩
 obtain ⟨_, l17_, E⟩ := E.lp (zmn o18_)
 rotate_left
 obtain ⟨_, l20_, E⟩ := E.lp (zmn o18_)
 rcases zac h with ⟨h21_, h⟩ | ⟨h21_, h⟩
 all_goals
  cases h
  refine E.s fun n x => ?_
  first | (have := l17_; refine zt ?_; refine zaf (l17_.1 n YJ _ _ ?_ ?_ ?_ _ _ ?_); (iterate 3 exact zs); simp only [zfh]; intro e m i0 i1; rcases zFO i0 with _ | ⟨lr0, _, _, _, _⟩ <;> (exact zs)) | (have := l20_; refine zt ?_; refine zaf (l20_.1 n YJ _ _ ?_ ?_ ?_ _ _ ?_); (iterate 3 exact zs); simp only [zfh]; intro e m i0 i1; rcases zsi i1 with ⟨_, _⟩ | ⟨_, _, _, _⟩ <;> (exact zs)) | (exact zs)
def zhE (K : YK) (R : Option Res -> Prop) : Out ((Sl Int)) (Int × List Int) -> Prop
 | .ret r => ∀ (e : Env) (m : Mem), zWp (e 4) m [6] 1 (cI .u8) r -> R (K .ret ⟨e, m⟩)
 | .done q => ∀ (e : Env) (m : Mem), e 1 = (.int .u64 q.1) -> zNT (e 5) m 6 1 (cI .u8) q.2 -> R (K (.exit 0) ⟨e, m⟩)
noncomputable def zvb : Code := za4 f53 [1, 1, 0, 0, 0]
theorem znA {kk : Nat} : ∀ {k : Nat} {s2 : Int} {s3 : List Int} {out : Out ((Sl Int)) (Int × List Int)}, zeV kk k s2 s3 = some out -> ∃ N, ∀ n, N <= n -> ∀ k, N <= k -> ∀ (e : Env) (m : Mem), e 1 = (.int .u64 s2) -> zNT (e 5) m 6 1 (cI .u8) s3 -> ∀ (K : YK) (R : Option Res -> Prop), zhE K R out -> R (zbU (zbt cfg (dfn cfg n) n zvb) K k ⟨e, m⟩) := by
 intro k
 induction k with
 | zero => intro s2 s3 out h; cases h
 | succ k ih => ?_
 intro s2 s3 out h
 have ih := fun x0 x1 {out} => @ih x0 x1 out
 unfold zeV at h
 have E := evT
 rcases zac h with ⟨h1_, h⟩ | ⟨h1_, h⟩
 obtain ⟨_, h2_, h⟩ := zaa h
 have h2_ := zah h2_
 try simp -dsimp -implicitDefEqProofs only [go_sem, simprocAttr] at h2_
 all_goals
  first | (cases h; refine E.l fun n k x => ?_) | refine E.c (ih _ _ h) fun n k x I => ?_
  intro e m i0 i1 K R hK
  obtain ⟨_, _, _⟩ := i1
  rw [zap]
  (conv => arg 1; arg 4; whnf)
  first | (refine zt ?_; refine zgo (I.1 _ _ ?_ ?_ _ _ hK); (iterate 2 exact zs)) | (refine zt ?_; simp only [zhE] at hK; refine hK _ _ ?_ ?_; (iterate 2 exact zs))
def zwK (r : (Sl Int)) (X : Option Res) : Prop := ∃ γ_, X = some ⟨(zFW r γ_), [], zso γ_ 1 (cI .u8) r⟩
theorem zxP {kk : Nat} {a : (Sl Int)} {b : Int} {r : (Sl Int)} (h : zdj kk a b = some r) : ∃ N, ∀ n, N <= n -> zwK r (dfn cfg n 53 [(dSl (cI .u8) a), (.int .u64 b)] []) := by
 unfold zdj at h
 have E := evT
 obtain ⟨_, h3_, h⟩ := zaa h
 have h3_ := zah h3_
 try simp -dsimp -implicitDefEqProofs only [go_sem, simprocAttr] at h3_
 rcases zaw h with ⟨r6_, o5_, h⟩ | ⟨q5, o5_, h⟩
 obtain ⟨_, l4_, E⟩ := E.lp (znA o5_)
 rotate_left
 obtain ⟨_, l7_, E⟩ := E.lp (znA o5_)
 obtain ⟨_, h8_, h⟩ := zaa h
 have h8_ := zah h8_
 try simp -dsimp -implicitDefEqProofs only [go_sem, simprocAttr] at h8_
 all_goals
  cases h
  refine E.s fun n x => ?_
  first | (have := l4_; refine zt ?_; refine zgo (l4_.1 n YJ _ _ ?_ ?_ _ _ ?_); (iterate 2 exact zs); simp only [zhE]; intro e m i0; rcases zTt i0 with ⟨_, _⟩ | ⟨lr0, _, _, _, _⟩ <;> (refine zt ?_; (first | (refine ⟨0, ?_⟩; (try conv => lhs; simp -dsimp -implicitDefEqProofs only [go_sem, func53, f53, zd1, *, simprocAttr]); (conv => rhs; simp -dsimp -implicitDefEqProofs only [go_sem, func53, f53, zd1, zFW, zso, *, simprocAttr]); (try rfl); done) | (apply Exists.intro; (try conv => lhs; simp -dsimp -implicitDefEqProofs only [go_sem, func53, f53, zd1, *, simprocAttr]); (conv => rhs; simp -dsimp -implicitDefEqProofs only [go_sem, func53, f53, zd1, zFW, zso, *, simprocAttr]); (try rfl); done)))) | (have := l7_; refine zt ?_; refine zgo (l7_.1 n YJ _ _ ?_ ?_ _ _ ?_); (iterate 2 exact zs); simp only [zhE]; intro e m i0 i1; obtain ⟨_, _, _⟩ := i1; refine zt ?_; (first | (refine ⟨0, ?_⟩; (try conv => lhs; simp -dsimp -implicitDefEqProofs only [go_sem, func53, f53, zd1, *, simprocAttr]); (conv => rhs; simp -dsimp -implicitDefEqProofs only [go_sem, func53, f53, zd1, zFW, zso, *, simprocAttr]); (try rfl); done) | (apply Exists.intro; (try conv => lhs; simp -dsimp -implicitDefEqProofs only [go_sem, func53, f53, zd1, *, simprocAttr]); (conv => rhs; simp -dsimp -implicitDefEqProofs only [go_sem, func53, f53, zd1, zFW, zso, *, simprocAttr]); (try rfl); done)))
theorem zjI {kk : Nat} {a : (Sl Int)} {b : Int} {r : (Sl Int)} (h : zdj kk a b = some r) : ∃ N, ∀ n, N <= n -> ∃ γ_, dfn cfg n 53 [(dSl (cI .u8) a), (.int .u64 b)] [] = some ⟨(zFW r γ_), [], zso γ_ 1 (cI .u8) r⟩ := zxP h
def ztV (r : (Sl Int)) (X : Option Res) : Prop := ∃ γ_, X = some ⟨(zFW r γ_), [], zso γ_ 1 (cI .u8) r⟩
theorem zuZ {kk : Nat} {a : (Sl Int)} {b : Str} {r : (Sl Int)} (h : zda kk a b = some r) : ∃ N, ∀ n, N <= n -> ztV r (dfn cfg n 26 [(dSl (cI .u8) a), (.str b)] []) := by
 unfold zda at h
 have E := evT
 obtain ⟨r1, h1_, h⟩ := zaa h
 obtain ⟨_, l2_, E⟩ := E.lj (zjI h1_)
 obtain ⟨_, h3_, h⟩ := zaa h
 have h3_ := zah h3_
 try simp -dsimp -implicitDefEqProofs only [go_sem, simprocAttr] at h3_
 obtain ⟨_, h4_, h⟩ := zaa h
 have h4_ := zah h4_
 try simp -dsimp -implicitDefEqProofs only [go_sem, simprocAttr] at h4_
 cases h
 refine E.s fun n x => ?_
 obtain ⟨_, el2_⟩ := l2_.1 n YJ
 simp only [zFW, zso, if_true, if_false, yF, *] at el2_
 refine zt ?_
 first | (refine ⟨0, ?_⟩; (try conv => lhs; simp -dsimp -implicitDefEqProofs only [go_sem, func26, f26, zd1, *, simprocAttr]); (conv => rhs; simp -dsimp -implicitDefEqProofs only [go_sem, func26, f26, zd1, zFW, zso, *, simprocAttr]); (try rfl); done) | (apply Exists.intro; (try conv => lhs; simp -dsimp -implicitDefEqProofs only [go_sem, func26, f26, zd1, *, simprocAttr]); (conv => rhs; simp -dsimp -implicitDefEqProofs only [go_sem, func26, f26, zd1, zFW, zso, *, simprocAttr]); (try rfl); done)
theorem zkv {kk : Nat} {a : (Sl Int)} {b : Str} {r : (Sl Int)} (h : zda kk a b = some r) : ∃ N, ∀ n, N <= n -> ∃ γ_, dfn cfg n 26 [(dSl (cI .u8) a), (.str b)] [] = some ⟨(zFW r γ_), [], zso γ_ 1 (cI .u8) r⟩ := zuZ h
def zgA (c3 : Sl Val) (K : YK) (R : YL) : Out ((Sl Int)) (List Int × Int) -> Prop
 | .ret r => ∀ (e : Env) (m : Mem), zA3 (e 2) m [9, 28, 47, 56, 62] 1 (cI .u8) r -> K .ret ⟨e, m⟩ = R
 | .done q => ∀ (e : Env) (m : Mem), zqZ (e 3) m [9, 28, 47, 56, 62] 1 (cI .u8) q.1 -> K (.exit 0) ⟨e, m⟩ = R
noncomputable def zwT : Code := za4 f27 [1, 1, 0, 1, 0, 0]
theorem zov {c3 : Sl Val} {kk : Nat} : ∀ {k : Nat} {s4 : List Int} {s5 : Int} {out : Out ((Sl Int)) (List Int × Int)}, zcv c3 kk k s4 s5 = some out -> ∃ N, ∀ n, N <= n -> ∀ k, N <= k -> ∀ (e : Env) (m : Mem), e 0 = (dSl zd0 c3) -> zqZ (e 3) m [9, 28, 47, 56, 62] 1 (cI .u8) s4 -> e 4 = (.int .i64 s5) -> ∀ (K : YK) (R : YL), zgA c3 K R out -> zbU (zbt cfg (dfn cfg n) n zwT) K k ⟨e, m⟩ = R := by
 intro k
 induction k with
 | zero => intro s4 s5 out h; cases h
 | succ k ih => ?_
 intro s4 s5 out h
 have ih := fun x0 x1 {out} => @ih x0 x1 out
 unfold zcv at h
 have E := evT
 rcases zac h with ⟨h1_, h⟩ | ⟨h1_, h⟩
 obtain ⟨y6, h2_, h⟩ := zaa h
 obtain ⟨_, h3_⟩ := zaA h2_
 have h3_ := zav h3_ zd0
 have E := E.and (znQ y6)
 rcases zac h with ⟨h4_, h⟩ | ⟨h4_, h⟩
 have b5_ := zan h4_
 rotate_left
 have b6_ := zal h4_
 obtain ⟨_, h7_, h⟩ := zaa h
 have h7_ := zah h7_
 try simp -dsimp -implicitDefEqProofs only [go_sem, simprocAttr] at h7_
 rcases zac h with ⟨h8_, h⟩ | ⟨h8_, h⟩
 rcases zac h with ⟨h9_, h⟩ | ⟨h9_, h⟩
 obtain ⟨r8, h10_, h⟩ := zaa h
 obtain ⟨_, l11_, E⟩ := E.lj (zjI h10_)
 obtain ⟨_, h12_, h⟩ := zaa h
 have h12_ := zah h12_
 try simp -dsimp -implicitDefEqProofs only [go_sem, simprocAttr] at h12_
 rotate_left
 obtain ⟨r10, h13_, h⟩ := zaa h
 obtain ⟨_, l14_, E⟩ := E.lj (zjI h13_)
 obtain ⟨_, h15_, h⟩ := zaa h
 have h15_ := zah h15_
 try simp -dsimp -implicitDefEqProofs only [go_sem, simprocAttr] at h15_
 rotate_left
 rcases zac h with ⟨h16_, h⟩ | ⟨h16_, h⟩
 obtain ⟨r12, h17_, h⟩ := zaa h
 obtain ⟨_, l18_, E⟩ := E.lj (zkv h17_)
 obtain ⟨_, h19_, h⟩ := zaa h
 have h19_ := zah h19_
 try simp -dsimp -implicitDefEqProofs only [go_sem, simprocAttr] at h19_
 rotate_left
 obtain ⟨_, h20_, h⟩ := zaa h
 have h20_ := zah h20_
 try simp -dsimp -implicitDefEqProofs only [go_sem, simprocAttr] at h20_
 all_goals
  first | (cases h; refine E.l fun n k x => ?_) | refine E.c (ih _ _ h) fun n k x I => ?_
  intro e m i0 i1 i2 K R hK
  rcases zPP i1 with ⟨_, _⟩ | ⟨_, _, _, _⟩ | ⟨_, _, _, _⟩ | ⟨_, _, _, _⟩ | ⟨_, _, _, _⟩ | ⟨_, _, _, _⟩ <;> (rw [zap]; (conv => lhs; arg 4; whnf); (first | (have := l11_; obtain ⟨_, el11_⟩ := l11_.1 n YJ; simp only [zFW, zso, if_true, if_false, yF, *] at el11_; (try replace el11_ := YM el11_); (try refine zt ?_); refine zaf (I.1 _ _ ?_ ?_ ?_ _ _ hK); (iterate 3 exact zs)) | (have := l14_; obtain ⟨_, el14_⟩ := l14_.1 n YJ; simp only [zFW, zso, if_true, if_false, yF, *] at el14_; (try replace el14_ := YM el14_); (try refine zt ?_); refine zaf (I.1 _ _ ?_ ?_ ?_ _ _ hK); (iterate 3 exact zs)) | (have := l18_; obtain ⟨_, el18_⟩ := l18_.1 n YJ; simp only [zFW, zso, if_true, if_false, yF, *] at el18_; (try replace el18_ := YM el18_); (try refine zt ?_); refine zaf (I.1 _ _ ?_ ?_ ?_ _ _ hK); (iterate 3 exact zs)) | ((try refine zt ?_); simp only [zgA] at hK; refine hK _ _ ?_; exact zs) | ((try refine zt ?_); refine zaf (I.1 _ _ ?_ ?_ ?_ _ _ hK); (iterate 3 exact zs)) | ((try refine zt ?_); simp only [zgA] at hK; refine hK _ _ ?_; exact zs)))
theorem zAS {kk : Nat} {a : (Sl Val)} {r : (Sl Int)} (h : ziH kk a = some r) : Ev cfg 27 [(dSl zd0 a)] (dSl (cI .u8) r) := by
 unfold ziH at h
 have E := evT
 obtain ⟨r1, h21_, h⟩ := zaa h
 obtain ⟨_, l22_, E⟩ := E.lj (zjI h21_)
 obtain ⟨_, h23_, h⟩ := zaa h
 have h23_ := zah h23_
 try simp -dsimp -implicitDefEqProofs only [go_sem, simprocAttr] at h23_
 rcases zaw h with ⟨r26_, o25_, h⟩ | ⟨q15, o25_, h⟩
 obtain ⟨_, l24_, E⟩ := E.lp (zov o25_)
 rotate_left
 obtain ⟨_, l27_, E⟩ := E.lp (zov o25_)
 all_goals
  cases h
  refine E.s fun n x => ?_
  obtain ⟨_, el22_⟩ := l22_.1 n YJ
  simp only [zFW, zso, if_true, if_false, yF, *] at el22_
  (try replace el22_ := YM el22_)
  first | (have := l24_; refine zt ?_; refine zaf (l24_.1 n YJ _ _ ?_ ?_ ?_ _ _ ?_); (iterate 3 exact zs); simp only [zgA]; intro e m i0; rcases zTw i0 with _ | ⟨lr0, _, _, _, _⟩ | ⟨lr0, _, _, _, _⟩ | ⟨lr0, _, _, _, _⟩ | ⟨lr0, _, _, _, _⟩ | ⟨lr0, _, _, _, _⟩ <;> (exact zs)) | (have := l27_; refine zt ?_; refine zaf (l27_.1 n YJ _ _ ?_ ?_ ?_ _ _ ?_); (iterate 3 exact zs); simp only [zgA]; intro e m i0; rcases zPP i0 with ⟨_, _⟩ | ⟨_, _, _, _⟩ | ⟨_, _, _, _⟩ | ⟨_, _, _, _⟩ | ⟨_, _, _, _⟩ | ⟨_, _, _, _⟩ <;> (exact zs))
def zjw (c2 : zfV) (K : YK) (R : YL) : Out (Bool) (Int) -> Prop
 | .ret r => ∀ (e : Env) (m : Mem), e 2 = (.bool r) -> K .ret ⟨e, m⟩ = R
 | .done q => ∀ (e : Env) (m : Mem), zb9 (e 1) m 1 2 (zhd c2) -> K (.exit 0) ⟨e, m⟩ = R
noncomputable def zB9 : Code := za4 f25 [1, 0, 1, 0, 0]
theorem zun {c2 : zfV} {kk : Nat} : ∀ {k : Nat} {s1 : Int} {out : Out (Bool) (Int)}, zhF c2 kk k s1 = some out -> ∃ N, ∀ n, N <= n -> ∀ k, N <= k -> ∀ (e : Env) (m : Mem), zb9 (e 1) m 1 2 (zhd c2) -> e 3 = (.int .i64 s1) -> ∀ (K : YK) (R : YL), zjw c2 K R out -> zbU (zbt cfg (dfn cfg n) n zB9) K k ⟨e, m⟩ = R := by
 intro k
 induction k with
 | zero => intro s1 out h; cases h
 | succ k ih => ?_
 intro s1 out h
 have ih := fun x0 {out} => @ih x0 out
 unfold zhF at h
 have E := evT
 rcases zac h with ⟨h1_, h⟩ | ⟨h1_, h⟩
 obtain ⟨y3, h2_, h⟩ := zaa h
 obtain ⟨_, h3_⟩ := zaA h2_
 have h3_ := zav h3_ zd0
 have E := E.and (znQ y3)
 rcases zac h with ⟨h4_, h⟩ | ⟨h4_, h⟩
 have b5_ := zan h4_
 rotate_left
 have b6_ := zal h4_
 all_goals
  first | (cases h; refine E.l fun n k x => ?_) | refine E.c (ih _ h) fun n k x I => ?_
  intro e m i0 i1 K R hK
  obtain ⟨_, _, _⟩ := i0
  rw [zap]
  (conv => lhs; arg 4; whnf)
  first | (refine zt ?_; simp only [zjw] at hK; refine hK _ _ ?_; exact zs) | (refine zt ?_; refine zaf (I.1 _ _ ?_ ?_ _ _ hK); (iterate 2 exact zs)) | (refine zt ?_; simp only [zjw] at hK; refine hK _ _ ?_; exact zs)
theorem zIl {kk : Nat} {a : zfV} {r : Bool} (h : znF kk a = some r) : Ev cfg 25 [(.agg (zhd a))] (.bool r) := by
 unfold znF at h
 have E := evT
 rcases zaw h with ⟨r9_, o8_, h⟩ | ⟨q4, o8_, h⟩
 obtain ⟨_, l7_, E⟩ := E.lp (zun o8_)
 rotate_left
 obtain ⟨_, l10_, E⟩ := E.lp (zun o8_)
 obtain ⟨_, h11_, h⟩ := zaa h
 have E := E.and (zBg a.ann (zah h11_))
 all_goals
  cases h
  refine E.s fun n x => ?_
  first | (have := l7_; refine zt ?_; refine zaf (l7_.1 n YJ _ _ ?_ ?_ _ _ ?_); (iterate 2 exact zs); simp only [zjw]; intro e m i0; exact zs) | (have := l10_; refine zt ?_; refine zaf (l10_.1 n YJ _ _ ?_ ?_ _ _ ?_); (iterate 2 exact zs); simp only [zjw]; intro e m i0; obtain ⟨_, _, _⟩ := i0; exact zs)
theorem zGB {kk : Nat} {a : zfV} {r : (Sl Int) × Int} (h : zl1 kk a = some r) : Ev cfg 8 [(.agg (zhd a))] (.tup [(dSl (cI .u8) r.1), (.int .i64 r.2)]) := by
 unfold zl1 at h
 have E := evT
 obtain ⟨r1, h1_, h⟩ := zaa h
 have E := E.and (zIl h1_)
 rcases zac h with ⟨h2_, h⟩ | ⟨h2_, h⟩
 have b3_ := zan h2_
 rotate_left
 have b4_ := zal h2_
 obtain ⟨r2, h5_, h⟩ := zaa h
 have E := E.and (zAS h5_)
 obtain ⟨r3, h6_, h⟩ := zaa h
 obtain ⟨_, l7_, E⟩ := E.lj (zkv h6_)
 obtain ⟨_, h8_, h⟩ := zaa h
 have h8_ := zah h8_
 try simp -dsimp -implicitDefEqProofs only [go_sem, simprocAttr] at h8_
 obtain ⟨_, h9_, h⟩ := zaa h
 have E := E.and (zGP a.ann (zah h9_))
 obtain ⟨r6, h10_, h⟩ := zaa h
 obtain ⟨_, l11_, E⟩ := E.lj (zkv h10_)
 obtain ⟨_, h12_, h⟩ := zaa h
 have h12_ := zah h12_
 try simp -dsimp -implicitDefEqProofs only [go_sem, simprocAttr] at h12_
 all_goals
  cases h
  refine E.s fun n x => ?_
  first | (have := l7_; obtain ⟨_, el7_⟩ := l7_.1 n YJ; simp only [zFW, zso, if_true, if_false, yF, *] at el7_; (try replace el7_ := YM el7_); obtain ⟨_, el11_⟩ := l11_.1 n YJ; simp only [zFW, zso, if_true, if_false, yF, *] at el11_; (try replace el11_ := YM el11_); exact zs) | (exact zs)
theorem zyS {kk : Nat} {a : Val} {r : Bool} (h : zjM kk a = some r) : Ev cfg 18 [(.agg (zd0 a))] (.bool r) := by
 unfold zjM at h
 have E := evT
 have E := E.and (zje a)
 cases h
 refine E.s fun n x => ?_
 exact zs
def zbm (c1 : Sl Val) (c2 : Int) (K : YK) (R : YL) : Out (Int) (Int) -> Prop
 | .ret r => ∀ (e : Env) (m : Mem), e 4 = (.int .i64 r) -> K .ret ⟨e, m⟩ = R
 | .done q => ∀ (e : Env) (m : Mem), K (.exit 0) ⟨e, m⟩ = R
noncomputable def zhn : Code := za4 f41 [1, 0, 1, 0, 0]
theorem zdu {c1 : Sl Val} {c2 : Int} {kk : Nat} : ∀ {k : Nat} {s3 : Int} {out : Out (Int) (Int)}, za3 c1 c2 kk k s3 = some out -> ∃ N, ∀ n, N <= n -> ∀ k, N <= k -> ∀ (e : Env) (m : Mem), e 0 = (dSl zd0 c1) -> e 1 = (.fn (.func 18) [] []) -> e 7 = (.int .i64 c2) -> e 8 = (.int .i64 s3) -> ∀ (K : YK) (R : YL), zbm c1 c2 K R out -> zbU (zbt cfg (dfn cfg n) n zhn) K k ⟨e, m⟩ = R := by
 intro k
 induction k with
 | zero => intro s3 out h; cases h
 | succ k ih => ?_
 intro s3 out h
 have ih := fun x0 {out} => @ih x0 out
 unfold za3 at h
 have E := evT
 rcases zac h with ⟨h1_, h⟩ | ⟨h1_, h⟩
 obtain ⟨y4, h2_, h⟩ := zaa h
 obtain ⟨_, h3_⟩ := zaA h2_
 have h3_ := zav h3_ zd0
 obtain ⟨r5, h4_, h⟩ := zaa h
 have E := E.and (zyS h4_)
 rcases zac h with ⟨h5_, h⟩ | ⟨h5_, h⟩
 all_goals
  first | (cases h; refine E.l fun n k x => ?_) | refine E.c (ih _ h) fun n k x I => ?_
  intro e m i0 i1 i2 i3 K R hK
  rw [zap]
  (conv => lhs; arg 4; whnf)
  first | (refine zt ?_; simp only [zbm] at hK; refine hK _ _ ?_; exact zs) | (refine zt ?_; refine zaf (I.1 _ _ ?_ ?_ ?_ ?_ _ _ hK); (iterate 4 exact zs)) | (refine zt ?_; simp only [zbm] at hK; refine hK _ _)
theorem zhV {kk : Nat} {a : (Sl Val)} {r : Int} (h : zbT kk a = some r) : Ev cfg 41 [(dSl zd0 a), (.fn (.func 18) [] [])] (.int .i64 r) := by
 unfold zbT at h
 have E := evT
 rcases zaw h with ⟨r8_, o7_, h⟩ | ⟨q6, o7_, h⟩
 obtain ⟨_, l6_, E⟩ := E.lp (zdu o7_)
 rotate_left
 obtain ⟨_, l9_, E⟩ := E.lp (zdu o7_)
 all_goals
  cases h
  refine E.s fun n x => ?_
  first | (have := l6_; refine zt ?_; refine zaf (l6_.1 n YJ _ _ ?_ ?_ ?_ ?_ _ _ ?_); (iterate 4 exact zs); simp only [zbm]; intro e m i0; exact zs) | (have := l9_; refine zt ?_; refine zaf (l9_.1 n YJ _ _ ?_ ?_ ?_ ?_ _ _ ?_); (iterate 4 exact zs); simp only [zbm]; intro e m; exact zs)
theorem zhe {kk : Nat} {a : (Sl Val)} {r : Bool} (h : zbJ kk a = some r) : Ev cfg 20 [(dSl zd0 a), (.fn (.func 18) [] [])] (.bool r) := by
 unfold zbJ at h
 have E := evT
 obtain ⟨r1, h1_, h⟩ := zaa h
 have E := E.and (zhV h1_)
 cases h
 refine E.s fun n x => ?_
 exact zs
def zi5 (c1 : zfV) (K : YK) (R : YL) (q : Bool) : Prop := ∀ (e : Env) (m : Mem), zb9 (e 1) m 1 2 (zhd c1) -> e 15 = (.bool (q)) -> K .normal ⟨e, m⟩ = R
noncomputable def zpT : Code := za4 f7 [1, 1, 0, 0]
theorem zxN {c1 : zfV} {kk : Nat} {out : Bool} (h : zhZ c1 kk = some out) : ∃ N, ∀ n, N <= n -> ∀ (e : Env) (m : Mem), zb9 (e 1) m 1 2 (zhd c1) -> e 4 = (.fn (.func 18) [] []) -> ∀ (K : YK) (R : YL), zi5 c1 K R out -> zbt cfg (dfn cfg n) n zpT K ⟨e, m⟩ = R := by
 unfold zhZ at h
 have E := evT
 obtain ⟨r2, h1_, h⟩ := zaa h
 have E := E.and (zhe h1_)
 rcases zac h with ⟨h2_, h⟩ | ⟨h2_, h⟩
 have b3_ := zan h2_
 obtain ⟨_, h4_, h⟩ := zaa h
 have E := E.and (zkW c1.ann (zah h4_))
 rotate_left
 have b5_ := zal h2_
 all_goals
  cases h
  refine E.j fun n x => ?_
  intro e m i0 i1 K R hK
  obtain ⟨_, _, _⟩ := i0
  (conv => lhs; arg 4; whnf)
  refine zt ?_
  simp only [zi5] at hK
  refine hK _ _ ?_ ?_
  (iterate 2 exact zs)
theorem zBP {kk : Nat} {a : zfV} {r : (Sl Int) × Int} (h : zjA kk a = some r) : Ev cfg 7 [(.agg (zhd a))] (.tup [(dSl (cI .u8) r.1), (.int .i64 r.2)]) := by
 unfold zjA at h
 have E := evT
 obtain ⟨q4, o7_, h⟩ := zaa h
 obtain ⟨_, l6_, E⟩ := E.lj (zxN o7_)
 rcases zac h with ⟨h9_, h⟩ | ⟨h9_, h⟩
 rotate_left
 obtain ⟨r5, h10_, h⟩ := zaa h
 have E := E.and (zxH h10_)
 obtain ⟨_, h11_, h⟩ := zaa h
 obtain ⟨_, l12_, E⟩ := E.lj (zsP (b2s r5.l) (zah h11_))
 obtain ⟨_, h13_, h⟩ := zaa h
 have E := E.and (zva a.ann (zah h13_))
 obtain ⟨_, h14_, h⟩ := zaa h
 obtain ⟨_, l15_, E⟩ := E.lj (zl0 (zHn [] (b2s r5.l)) (ziv a.ann) (zah h14_))
 all_goals
  cases h
  refine E.s fun n x => ?_
  have j0 := zeU cfg (dfn cfg n) n zpT
  (conv at j0 => intro k s; lhs; arg 4; whnf)
  first | (have := l12_; obtain ⟨_, el12_⟩ := l12_.1 n YJ; (try replace el12_ := YM el12_); obtain ⟨_, el15_⟩ := l15_.1 n YJ; (try replace el15_ := YM el15_); simp -dsimp -implicitDefEqProofs only [go_sem, ↓j0, func7, f7, *, simprocAttr]; refine zgv (l6_.1 n YJ _ _ ?_ ?_ _ _ ?_); (iterate 2 exact zs); simp only [zi5]; intro e m i0 i1; obtain ⟨_, _, _⟩ := i0; simp -dsimp -implicitDefEqProofs only [go_sem, ↓j0, func7, f7, *, simprocAttr]) | (have := l6_; simp -dsimp -implicitDefEqProofs only [go_sem, ↓j0, func7, f7, *, simprocAttr]; refine zgv (l6_.1 n YJ _ _ ?_ ?_ _ _ ?_); (iterate 2 exact zs); simp only [zi5]; intro e m i0 i1; obtain ⟨_, _, _⟩ := i0; simp -dsimp -implicitDefEqProofs only [go_sem, ↓j0, func7, f7, *, simprocAttr])
theorem zBQ {kk : Nat} {a : (Sl Int)} {r : zfV × Int × Int} (h : zjB kk a = some r) : Ev cfg 9 [(dSl (cI .u8) a)] (.tup [(.agg (zhd r.1)), (.int .i64 r.2.1), (.int .i64 r.2.2)]) := by
 unfold zjB at h
 have E := evT
 obtain ⟨r1, h1_, h⟩ := zaa h
 have E := E.and (zoW h1_)
 rcases zac h with ⟨h2_, h⟩ | ⟨h2_, h⟩
 rotate_left
 obtain ⟨r2, h3_, h⟩ := zaa h
 have E := E.and (zxI h3_)
 rcases zac h with ⟨h4_, h⟩ | ⟨h4_, h⟩
 rotate_left
 obtain ⟨y3, h5_, h⟩ := zaa h
 have h5_ : zfr prog (some (.int .i64 r1.2.1)) none none (dSl (cI .u8) a) (.slice 5) = pure (dSl (cI .u8) y3) := zmx h5_ ti5 (fun _ => rfl)
 obtain ⟨r4, h6_, h⟩ := zaa h
 have E := E.and (zoW h6_)
 rcases zac h with ⟨h7_, h⟩ | ⟨h7_, h⟩
 rotate_left
 obtain ⟨_, h8_, h⟩ := zaa h
 have E := E.and (zwN r4.1 (zah h8_))
 rcases zac h with ⟨h9_, h⟩ | ⟨h9_, h⟩
 all_goals
  cases h
  refine E.s fun n x => ?_
  (try replace x := YM x)
  exact zs
def zlW (c14 c15 : Int) (c16 : Sl za7) (c17 : Int) (K : YK) (R : YL) : Out (Bool) (Int) -> Prop
 | .ret r => ∀ (e : Env) (m : Mem), e 6 = (.bool r) -> K .ret ⟨e, m⟩ = R
 | .done q => ∀ (e : Env) (m : Mem), e 0 = (.int .i64 c14) -> e 1 = (.int .i64 c15) -> e 2 = (dSl zdt c16) -> e 7 = (.int .i64 c17) -> K (.exit 4) ⟨e, m⟩ = R
noncomputable def zGQ : Code := za4 f17 [1, 0, 1, 0, 0, 1, 0, 0, 1, 1, 1, 0, 0]
theorem zyB {c14 c15 : Int} {c16 : Sl za7} {c17 : Int} {kk : Nat} : ∀ {k : Nat} {s18 : Int} {out : Out (Bool) (Int)}, ziF c14 c15 c16 c17 kk k s18 = some out -> ∃ N, ∀ n, N <= n -> ∀ k, N <= k -> ∀ (e : Env) (m : Mem), e 0 = (.int .i64 c14) -> e 1 = (.int .i64 c15) -> e 2 = (dSl zdt c16) -> e 7 = (.int .i64 c17) -> e 9 = (.int .i64 s18) -> ∀ (K : YK) (R : YL), zlW c14 c15 c16 c17 K R out -> zbU (zbt cfg (dfn cfg n) n zGQ) K k ⟨e, m⟩ = R := by
 intro k
 induction k with
 | zero => intro s18 out h; cases h
 | succ k ih => ?_
 intro s18 out h
 have ih := fun x0 {out} => @ih x0 out
 unfold ziF at h
 have E := evT
 obtain ⟨y19, h1_, h⟩ := zaa h
 obtain ⟨_, h2_⟩ := zaA h1_
 have h2_ := zav h2_ zdt
 rcases zac h with ⟨h3_, h⟩ | ⟨h3_, h⟩
 obtain ⟨y20, h4_, h⟩ := zaa h
 obtain ⟨_, h5_⟩ := zaA h4_
 have h5_ := zav h5_ zhd
 obtain ⟨_, h6_, h⟩ := zaa h
 have E := E.and (zIv y20.values 20 (zah h6_))
 rcases zac h with ⟨h7_, h⟩ | ⟨h7_, h⟩
 have b8_ := zan h7_
 have b9_ := zal b8_
 obtain ⟨_, h10_, h⟩ := zaa h
 have E := E.and (zNX c15 (Sl.of [y20.ann]) (zah h10_))
 rcases zac h with ⟨h11_, h⟩ | ⟨h11_, h⟩
 have b12_ := zan h11_
 try simp only [Sl.of] at b12_
 rotate_left
 have b13_ := zal h11_
 try simp only [Sl.of] at b13_
 rotate_left
 have b14_ := zal h7_
 have b15_ := zan b14_
 all_goals
  first | (cases h; refine E.l fun n k x => ?_) | refine E.c (ih _ h) fun n k x I => ?_
  intro e m i0 i1 i2 i3 i4 K R hK
  (try replace x := YM x)
  rw [zap]
  (conv => lhs; arg 4; whnf)
  first | (refine zt ?_; simp only [zlW] at hK; refine hK _ _ ?_; exact zs) | (refine zt ?_; refine zaf (I.1 _ _ ?_ ?_ ?_ ?_ ?_ _ _ hK); (iterate 5 exact zs)) | (refine zt ?_; simp only [zlW] at hK; refine hK _ _ ?_ ?_ ?_ ?_; (iterate 4 exact zs))
def zlX (c6 c7 : Int) (c8 : Sl za7) (c9 : Int) (K : YK) (R : YL) : Out (Bool) (Int) -> Prop
 | .ret r => ∀ (e : Env) (m : Mem), e 6 = (.bool r) -> K .ret ⟨e, m⟩ = R
 | .done q => ∀ (e : Env) (m : Mem), e 0 = (.int .i64 c6) -> e 1 = (.int .i64 c7) -> e 2 = (dSl zdt c8) -> e 7 = (.int .i64 c9) -> K (.exit 2) ⟨e, m⟩ = R
noncomputable def zGR : Code := za4 f17 [1, 0, 1, 0, 0, 1, 0, 0, 1, 0, 1, 0, 0]
theorem zyC {c6 c7 : Int} {c8 : Sl za7} {c9 : Int} {kk : Nat} : ∀ {k : Nat} {s10 : Int} {out : Out (Bool) (Int)}, zln c6 c7 c8 c9 kk k s10 = some out -> ∃ N, ∀ n, N <= n -> ∀ k, N <= k -> ∀ (e : Env) (m : Mem), e 0 = (.int .i64 c6) -> e 1 = (.int .i64 c7) -> e 2 = (dSl zdt c8) -> e 7 = (.int .i64 c9) -> e 8 = (.int .i64 s10) -> ∀ (K : YK) (R : YL), zlX c6 c7 c8 c9 K R out -> zbU (zbt cfg (dfn cfg n) n zGR) K k ⟨e, m⟩ = R := by
 intro k
 induction k with
 | zero => intro s10 out h; cases h
 | succ k ih => ?_
 intro s10 out h
 have ih := fun x0 {out} => @ih x0 out
 unfold zln at h
 have E := evT
 obtain ⟨y11, h16_, h⟩ := zaa h
 obtain ⟨_, h17_⟩ := zaA h16_
 have h17_ := zav h17_ zdt
 rcases zac h with ⟨h18_, h⟩ | ⟨h18_, h⟩
 obtain ⟨y12, h19_, h⟩ := zaa h
 obtain ⟨_, h20_⟩ := zaA h19_
 have h20_ := zav h20_ zsA
 rcases zac h with ⟨h21_, h⟩ | ⟨h21_, h⟩
 all_goals
  first | (cases h; refine E.l fun n k x => ?_) | refine E.c (ih _ h) fun n k x I => ?_
  intro e m i0 i1 i2 i3 i4 K R hK
  rw [zap]
  (conv => lhs; arg 4; whnf)
  first | (refine zt ?_; simp only [zlX] at hK; refine hK _ _ ?_; exact zs) | (refine zt ?_; refine zaf (I.1 _ _ ?_ ?_ ?_ ?_ ?_ _ _ hK); (iterate 5 exact zs)) | (refine zt ?_; simp only [zlX] at hK; refine hK _ _ ?_ ?_ ?_ ?_; (iterate 4 exact zs))
def ziA (c1 c2 : Int) (c3 : Sl za7) (K : YK) (R : YL) : Out (Bool) (Int) -> Prop
 | .ret r => ∀ (e : Env) (m : Mem), e 6 = (.bool r) -> K .ret ⟨e, m⟩ = R
 | .done q => ∀ (e : Env) (m : Mem), K (.exit 0) ⟨e, m⟩ = R
noncomputable def zGS : Code := za4 f17 [1, 0, 1, 0, 0]
theorem zyD {c1 c2 : Int} {c3 : Sl za7} {kk : Nat} : ∀ {k : Nat} {s4 : Int} {out : Out (Bool) (Int)}, ziG c1 c2 c3 kk k s4 = some out -> ∃ N, ∀ n, N <= n -> ∀ k, N <= k -> ∀ (e : Env) (m : Mem), e 0 = (.int .i64 c1) -> e 1 = (.int .i64 c2) -> e 2 = (dSl zdt c3) -> e 7 = (.int .i64 s4) -> ∀ (K : YK) (R : YL), ziA c1 c2 c3 K R out -> zbU (zbt cfg (dfn cfg n) n zGS) K k ⟨e, m⟩ = R := by
 intro k
 induction k with
 | zero => intro s4 out h; cases h
 | succ k ih => ?_
 intro s4 out h
 have ih := fun x0 {out} => @ih x0 out
 unfold ziG at h
 have E := evT
 rcases zac h with ⟨h22_, h⟩ | ⟨h22_, h⟩
 obtain ⟨y5, h23_, h⟩ := zaa h
 obtain ⟨_, h24_⟩ := zaA h23_
 have h24_ := zav h24_ zdt
 rcases zac h with ⟨h25_, h⟩ | ⟨h25_, h⟩
 rcases zbL h25_ with b26_ | ⟨b26_, b27_⟩
 rotate_left
 rotate_left
 obtain ⟨b28_, b29_⟩ := zaK h25_
 rcases zaw h with ⟨r32_, o31_, h⟩ | ⟨q13, o31_, h⟩
 obtain ⟨_, l30_, E⟩ := E.lp (zyC o31_)
 rotate_left
 obtain ⟨_, l33_, E⟩ := E.lp (zyC o31_)
 rcases zaw h with ⟨r36_, o35_, h⟩ | ⟨q23, o35_, h⟩
 obtain ⟨_, l34_, E⟩ := E.lp (zyB o35_)
 rotate_left
 obtain ⟨_, l37_, E⟩ := E.lp (zyB o35_)
 all_goals
  first | (cases h; refine E.l fun n k x => ?_) | refine E.c (ih _ h) fun n k x I => ?_
  intro e m i0 i1 i2 i3 K R hK
  rw [zap]
  (conv => lhs; arg 4; whnf)
  first | (have := l30_; refine zt ?_; refine zaf (l30_.1 n YJ _ _ ?_ ?_ ?_ ?_ ?_ _ _ ?_); (iterate 5 exact zs); simp only [zlX]; intro e m i0; (try refine zt ?_); simp only [ziA] at hK; refine hK _ _ ?_; exact zs) | (have := l33_; refine zt ?_; refine zaf (l33_.1 n YJ _ _ ?_ ?_ ?_ ?_ ?_ _ _ ?_); (iterate 5 exact zs); simp only [zlX]; intro e m i0 i1 i2 i3; (first | (have := l34_; (try refine zt ?_); refine zaf (l34_.1 n YJ _ _ ?_ ?_ ?_ ?_ ?_ _ _ ?_); (iterate 5 exact zs); simp only [zlW]; intro e m i0; (try refine zt ?_); simp only [ziA] at hK; refine hK _ _ ?_; exact zs) | (have := l37_; (try refine zt ?_); refine zaf (l37_.1 n YJ _ _ ?_ ?_ ?_ ?_ ?_ _ _ ?_); (iterate 5 exact zs); simp only [zlW]; intro e m i0 i1 i2 i3; (try refine zt ?_); refine zaf (I.1 _ _ ?_ ?_ ?_ ?_ _ _ hK); (iterate 4 exact zs)))) | ((try refine zt ?_); simp only [ziA] at hK; refine hK _ _ ?_; exact zs) | ((try refine zt ?_); simp only [ziA] at hK; refine hK _ _)
theorem zNQ {kk : Nat} {a b : Int} {c : (Sl za7)} {r : Bool} (h : zwF kk a b c = some r) : Ev cfg 17 [(.int .i64 a), (.int .i64 b), (dSl zdt c)] (.bool r) := by
 unfold zwF at h
 have E := evT
 rcases zaw h with ⟨r40_, o39_, h⟩ | ⟨q24, o39_, h⟩
 obtain ⟨_, l38_, E⟩ := E.lp (zyD o39_)
 rotate_left
 obtain ⟨_, l41_, E⟩ := E.lp (zyD o39_)
 all_goals
  cases h
  refine E.s fun n x => ?_
  first | (have := l38_; refine zt ?_; refine zaf (l38_.1 n YJ _ _ ?_ ?_ ?_ ?_ _ _ ?_); (iterate 4 exact zs); simp only [ziA]; intro e m i0; exact zs) | (have := l41_; refine zt ?_; refine zaf (l41_.1 n YJ _ _ ?_ ?_ ?_ ?_ _ _ ?_); (iterate 4 exact zs); simp only [ziA]; intro e m; exact zs)
def zhf (c1 c2 : Sl zfV) (K : YK) (R : YL) : Out (Bool) (Int) -> Prop
 | .ret r => ∀ (e : Env) (m : Mem), e 4 = (.bool r) -> K .ret ⟨e, m⟩ = R
 | .done q => ∀ (e : Env) (m : Mem), K (.exit 0) ⟨e, m⟩ = R
noncomputable def zx6 : Code := za4 f10 [1, 1, 0, 1, 0, 0]
theorem zpJ {c1 c2 : Sl zfV} {kk : Nat} : ∀ {k : Nat} {s3 : Int} {out : Out (Bool) (Int)}, zgq c1 c2 kk k s3 = some out -> ∃ N, ∀ n, N <= n -> ∀ k, N <= k -> ∀ (e : Env) (m : Mem), e 0 = (dSl zhd c1) -> e 1 = (dSl zhd c2) -> e 5 = (.int .i64 s3) -> ∀ (K : YK) (R : YL), zhf c1 c2 K R out -> zbU (zbt cfg (dfn cfg n) n zx6) K k ⟨e, m⟩ = R := by
 intro k
 induction k with
 | zero => intro s3 out h; cases h
 | succ k ih => ?_
 intro s3 out h
 have ih := fun x0 {out} => @ih x0 out
 unfold zgq at h
 have E := evT
 rcases zac h with ⟨h1_, h⟩ | ⟨h1_, h⟩
 obtain ⟨y4, h2_, h⟩ := zaa h
 obtain ⟨_, h3_⟩ := zaA h2_
 have h3_ := zav h3_ zhd
 obtain ⟨y5, h4_, h⟩ := zaa h
 obtain ⟨_, h5_⟩ := zaA h4_
 have h5_ := zav h5_ zhd
 obtain ⟨_, h6_, h⟩ := zaa h
 have E := E.and (zLg y4.values y5.values (zah h6_))
 rcases zac h with ⟨h7_, h⟩ | ⟨h7_, h⟩
 have b8_ := zan h7_
 have b9_ := zal b8_
 obtain ⟨_, h10_, h⟩ := zaa h
 have E := E.and (zCW y4.ann y5.ann (zah h10_))
 rcases zac h with ⟨h11_, h⟩ | ⟨h11_, h⟩
 have b12_ := zan h11_
 rotate_left
 have b13_ := zal h11_
 rotate_left
 have b14_ := zal h7_
 have b15_ := zan b14_
 all_goals
  first | (cases h; refine E.l fun n k x => ?_) | refine E.c (ih _ h) fun n k x I => ?_
  intro e m i0 i1 i2 K R hK
  rw [zap]
  (conv => lhs; arg 4; whnf)
  first | (refine zt ?_; simp only [zhf] at hK; refine hK _ _ ?_; exact zs) | (refine zt ?_; refine zaf (I.1 _ _ ?_ ?_ ?_ _ _ hK); (iterate 3 exact zs)) | (refine zt ?_; simp only [zhf] at hK; refine hK _ _)
theorem zBT {kk : Nat} {a : (Sl zfV)} {b : (Sl zfV)} {r : Bool} (h : zjC kk a b = some r) : Ev cfg 10 [(dSl zhd a), (dSl zhd b)] (.bool r) := by
 unfold zjC at h
 have E := evT
 rcases zac h with ⟨h16_, h⟩ | ⟨h16_, h⟩
 rotate_left
 rcases zaw h with ⟨r19_, o18_, h⟩ | ⟨q8, o18_, h⟩
 obtain ⟨_, l17_, E⟩ := E.lp (zpJ o18_)
 rotate_left
 obtain ⟨_, l20_, E⟩ := E.lp (zpJ o18_)
 all_goals
  cases h
  refine E.s fun n x => ?_
  first | (have := l17_; refine zt ?_; refine zaf (l17_.1 n YJ _ _ ?_ ?_ ?_ _ _ ?_); (iterate 3 exact zs); simp only [zhf]; intro e m i0; exact zs) | (have := l20_; refine zt ?_; refine zaf (l20_.1 n YJ _ _ ?_ ?_ ?_ _ _ ?_); (iterate 3 exact zs); simp only [zhf]; intro e m; exact zs) | (exact zs)
theorem zNP {kk : Nat} {a : (Sl zfV)} {r : Bool} (h : zsR kk a = some r) : Ev cfg 6 [(dSl zhd a)] (.bool r) := by
 unfold zsR at h
 have E := evT
 obtain ⟨r1, h1_, h⟩ := zaa h
 have E := E.and (zNQ h1_)
 cases h
 refine E.s fun n x => ?_
 (try replace x := YM x)
 exact zs
theorem zsD {kk : Nat} {a : zfV} {b : (Sl Int)} {r : Bool} (h : zgB kk a b = some r) : Ev cfg 3 [(.agg (zhd a)), (dSl (cI .u8) b)] (.bool r) := by
 unfold zgB at h
 have E := evT
 have e1_ : zz6 [] = some (.bool ((zNE))) := zJ7
 rcases zac h with ⟨h2_, h⟩ | ⟨h2_, h⟩
 have b3_ := zan h2_
 rotate_left
 have b4_ := zal h2_
 obtain ⟨r1, h5_, h⟩ := zaa h
 have E := E.and (zNP h5_)
 rcases zac h with ⟨h6_, h⟩ | ⟨h6_, h⟩
 rcases zbL h6_ with b7_ | ⟨b7_, b8_⟩
 have b9_ := zan b7_
 rotate_left
 have b10_ := zal b7_
 rotate_left
 obtain ⟨b11_, b12_⟩ := zaK h6_
 have b13_ := zal b11_
 obtain ⟨r2, h14_, h⟩ := zaa h
 have E := E.and (zBP h14_)
 obtain ⟨r3, h15_, h⟩ := zaa h
 have E := E.and (zGB h15_)
 rcases zac h with ⟨h16_, h⟩ | ⟨h16_, h⟩
 rcases zbL h16_ with b17_ | ⟨b17_, b18_⟩
 rotate_left
 have b19_ := zan b18_
 rotate_left
 obtain ⟨b20_, b21_⟩ := zaK h16_
 have b22_ := zal b21_
 rcases zac h with ⟨h23_, h⟩ | ⟨h23_, h⟩
 rotate_left
 obtain ⟨_, h24_, h⟩ := zaa h
 have h24_ := zah h24_
 try simp -dsimp -implicitDefEqProofs only [go_sem, simprocAttr] at h24_
 obtain ⟨_, h25_, h⟩ := zaa h
 have h25_ := zah h25_
 try simp -dsimp -implicitDefEqProofs only [go_sem, simprocAttr] at h25_
 obtain ⟨r6, h26_, h⟩ := zaa h
 have E := E.and (zBQ h26_)
 rcases zac h with ⟨h27_, h⟩ | ⟨h27_, h⟩
 obtain ⟨b28_, b29_⟩ := zbG h27_
 obtain ⟨r7, h30_, h⟩ := zaa h
 have E := E.and (zBT h30_)
 rotate_left
 rcases zbj h27_ with b31_ | ⟨b31_, b32_⟩
 all_goals
  cases h
  refine E.s fun n x => ?_
  (try replace x := YM x)
  exact zs
theorem zsY (a : zfV) (b : (Sl Int)) (h : okE a b) : Ev cfg 3 [(.agg (zhd a)), (dSl (cI .u8) b)] (.bool (zHe a b)) := zsD (zpN (kk := big) a b h)
end Go.Proofs.Tryz
