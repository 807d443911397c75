/- HashjoinBucket: for all rows, key columns, numbers of parts and levels that hold together at most 1048576 values and letters, the law returns true. Condition: that bound (the Upto form). -/
import Derived.Test.YtklniminnejicaaGreatDoorT3
import Derived.Test.YtklniminnejicaaGreatDoorT8
set_option linter.all false
namespace Go.Proofs.Tryz
open Go.Ev
def zkJ : Nat := 326
def zvq : List (Nat × (List D → Option D)) := [(302, zhf), (228, zfb), (258, zxZ), (304, ztY), (240, zhe zkJ), (280, zt1 zkJ), (83, ziQ), (163, zt0), (164, ztZ), (176, zf8), (4, zim)]
def zmF (f : Nat) : Option (List D → Option D) := (zvq.find? fun x => Nat.beq x.1 f).map (·.2)
def zxL : List Nat := [8, 20, 75, 107, 138, 145, 159, 160, 165, 172, 181, 182, 191, 192, 193, 194, 195, 196, 197, 198, 201, 202, 203, 204, 205, 206, 207, 208, 231, 234, 235, 236, 237, 238, 252, 253]
def zsN (f : Nat) : Bool := zxL.any fun x => Nat.beq x f
noncomputable def cfg : Cfg := { P := prog, prim := zmF, byRef := zsN, fine := fun f => decide (f < 322) }
@[go_sem] theorem zCU : cfg.P = prog := rfl
@[go_sem] theorem zy0 (f) : cfg.fine f = decide (f < 322) := rfl
@[go_sem] theorem zyl : cfg.prim 3 = none := rfl
@[go_sem] theorem zyk : cfg.prim 4 = some (zim) := rfl
@[go_sem] theorem zyj : cfg.prim 5 = none := rfl
@[go_sem] theorem zyi : cfg.prim 6 = none := rfl
@[go_sem] theorem zyh : cfg.prim 7 = none := rfl
@[go_sem] theorem zyg : cfg.prim 8 = none := rfl
@[go_sem] theorem zyf : cfg.prim 9 = none := rfl
@[go_sem] theorem zxK : cfg.prim 17 = none := rfl
@[go_sem] theorem zxJ : cfg.prim 19 = none := rfl
@[go_sem] theorem zxI : cfg.prim 20 = none := rfl
@[go_sem] theorem zxH : cfg.prim 21 = none := rfl
@[go_sem] theorem zxG : cfg.prim 22 = none := rfl
@[go_sem] theorem zxF : cfg.prim 23 = none := rfl
@[go_sem] theorem zxE : cfg.prim 33 = none := rfl
@[go_sem] theorem zxD : cfg.prim 37 = none := rfl
@[go_sem] theorem zxC : cfg.prim 38 = none := rfl
@[go_sem] theorem zxB : cfg.prim 39 = none := rfl
@[go_sem] theorem zxA : cfg.prim 40 = none := rfl
@[go_sem] theorem zxz : cfg.prim 41 = none := rfl
@[go_sem] theorem zxy : cfg.prim 42 = none := rfl
@[go_sem] theorem zxx : cfg.prim 43 = none := rfl
@[go_sem] theorem zxw : cfg.prim 55 = none := rfl
@[go_sem] theorem zxv : cfg.prim 56 = none := rfl
@[go_sem] theorem zxu : cfg.prim 58 = none := rfl
@[go_sem] theorem zxt : cfg.prim 61 = none := rfl
@[go_sem] theorem zxs : cfg.prim 62 = none := rfl
@[go_sem] theorem zxr : cfg.prim 63 = none := rfl
@[go_sem] theorem zxq : cfg.prim 78 = none := rfl
@[go_sem] theorem zxp : cfg.prim 79 = none := rfl
@[go_sem] theorem zxo : cfg.prim 83 = some (ziQ) := rfl
@[go_sem] theorem zww : cfg.prim 163 = some (zt0) := rfl
@[go_sem] theorem zwv : cfg.prim 164 = some (ztZ) := rfl
@[go_sem] theorem zwu : cfg.prim 176 = some (zf8) := rfl
@[go_sem] theorem zwt : cfg.prim 228 = some (zfb) := rfl
@[go_sem] theorem zws : cfg.prim 240 = some (zhe zkJ) := rfl
@[go_sem] theorem zwr : cfg.prim 258 = some (zxZ) := rfl
@[go_sem] theorem zwq : cfg.prim 280 = some (zt1 zkJ) := rfl
@[go_sem] theorem zwp : cfg.prim 302 = some (zhf) := rfl
@[go_sem] theorem zwo : cfg.prim 304 = some (ztY) := rfl
@[go_sem] theorem zz1 : cfg.byRef 3 = false := rfl
@[go_sem] theorem zz0 : cfg.byRef 4 = false := rfl
@[go_sem] theorem zzZ : cfg.byRef 5 = false := rfl
@[go_sem] theorem zzY : cfg.byRef 6 = false := rfl
@[go_sem] theorem zzX : cfg.byRef 7 = false := rfl
@[go_sem] theorem zzW : cfg.byRef 8 = true := rfl
@[go_sem] theorem zzV : cfg.byRef 9 = false := rfl
@[go_sem] theorem zzn : cfg.byRef 17 = false := rfl
@[go_sem] theorem zzm : cfg.byRef 19 = false := rfl
@[go_sem] theorem zzl : cfg.byRef 20 = true := rfl
@[go_sem] theorem zzk : cfg.byRef 21 = false := rfl
@[go_sem] theorem zzj : cfg.byRef 22 = false := rfl
@[go_sem] theorem zzi : cfg.byRef 23 = false := rfl
@[go_sem] theorem zzh : cfg.byRef 33 = false := rfl
@[go_sem] theorem zzg : cfg.byRef 37 = false := rfl
@[go_sem] theorem zzf : cfg.byRef 38 = false := rfl
@[go_sem] theorem zze : cfg.byRef 39 = false := rfl
@[go_sem] theorem zzd : cfg.byRef 40 = false := rfl
@[go_sem] theorem zzc : cfg.byRef 41 = false := rfl
@[go_sem] theorem zzb : cfg.byRef 42 = false := rfl
@[go_sem] theorem zza : cfg.byRef 43 = false := rfl
@[go_sem] theorem zy9 : cfg.byRef 55 = false := rfl
@[go_sem] theorem zy8 : cfg.byRef 56 = false := rfl
@[go_sem] theorem zy7 : cfg.byRef 58 = false := rfl
@[go_sem] theorem zy6 : cfg.byRef 61 = false := rfl
@[go_sem] theorem zy5 : cfg.byRef 62 = false := rfl
@[go_sem] theorem zy4 : cfg.byRef 63 = false := rfl
@[go_sem] theorem zy3 : cfg.byRef 78 = false := rfl
@[go_sem] theorem zy2 : cfg.byRef 79 = false := rfl
@[go_sem] theorem zy1 : cfg.byRef 83 = false := rfl
@[go_sem] theorem zyu : cfg.byRef 163 = false := rfl
@[go_sem] theorem zyt : cfg.byRef 164 = false := rfl
@[go_sem] theorem zys : cfg.byRef 176 = false := rfl
@[go_sem] theorem zyr : cfg.byRef 228 = false := rfl
@[go_sem] theorem zyq : cfg.byRef 240 = false := rfl
@[go_sem] theorem zyp : cfg.byRef 258 = false := rfl
@[go_sem] theorem zyo : cfg.byRef 280 = false := rfl
@[go_sem] theorem zyn : cfg.byRef 302 = false := rfl
@[go_sem] theorem zym : cfg.byRef 304 = false := rfl
end Go.Proofs.Tryz
set_option maxRecDepth 100000
set_option maxHeartbeats 4000000
set_option linter.unusedSimpArgs false
set_option linter.unusedVariables false
namespace Go.Proofs.Tryz
open Go.Ev
theorem znq {kk : Nat} {a : Int} {b : Int} {r : Int} (h : zeu kk a b = some r) : Ev cfg 58 [(.int .i64 a), (.int .i64 b)] (.int .i64 r) := by
 unfold zeu at h
 have E := evT
 rcases zag h with ⟨h1_, h⟩ | ⟨h1_, h⟩
 rotate_left
 rcases zag h with ⟨h2_, h⟩ | ⟨h2_, h⟩
 rotate_left
 rotate_left
 all_goals
  obtain rfl := Option.some.inj h
  refine E.s fun n x => ?_
  simp -dsimp -implicitDefEqProofs only [go_sem, func58, f58, *, simprocAttr]
theorem zq4 {kk : Nat} {a : Bool} {r : Int} (h : zig kk a = some r) : Ev cfg 63 [(.bool (a))] (.int .i64 r) := by
 unfold zig at h
 have E := evT
 rcases zag h with ⟨h1_, h⟩ | ⟨h1_, h⟩
 rotate_left
 rotate_left
 all_goals
  obtain rfl := Option.some.inj h
  refine E.s fun n x => ?_
  simp -dsimp -implicitDefEqProofs only [go_sem, func63, f63, *, simprocAttr]
theorem zbl (a : Int) (b : Int) : Ev cfg 58 [(.int .i64 a), (.int .i64 b)] (.int .i64 (zcX a b)) := znq (zjT 0 a b)
theorem zgo (a : Bool) : Ev cfg 63 [(.bool (a))] (.int .i64 (sgn a)) := zq4 (zl8 0 a)
theorem ziH {kk : Nat} {a : zaR} {b : zaR} {r : Int} (h : zcK kk a b = some r) : Ev cfg 78 [(.agg (zbi a)), (.agg (zbi b))] (.int .i64 r) := by
 unfold zcK at h
 have E := evT
 have E := E.and (zbl a.table b.table)
 rcases zag h with ⟨h1_, h⟩ | ⟨h1_, h⟩
 rotate_left
 have E := E.and (zbl a.seq b.seq)
 rotate_left
 all_goals
  obtain rfl := Option.some.inj h
  refine E.s fun n x => ?_
  simp -dsimp -implicitDefEqProofs only [go_sem, func78, f78, *, simprocAttr]
theorem zl3 {kk : Nat} {a : Val} {b : Val} {r : Int} (h : zdZ kk a b = some r) : Ev cfg 62 [(.agg (zbv a)), (.agg (zbv b))] (.int .i64 r) := by
 unfold zdZ at h
 have E := evT
 rcases zag h with ⟨h1_, h⟩ | ⟨h1_, h⟩
 have E := E.and (zgo (decide (a.kind < b.kind)))
 rotate_left
 rcases zag h with ⟨h2_, h⟩ | ⟨h2_, h⟩
 have E := E.and (zgo (decide (a.int < b.int)))
 rotate_left
 rcases zag h with ⟨h3_, h⟩ | ⟨h3_, h⟩
 have b4_ := zaY h3_
 have E := E.and (zgo (zbw a.text b.text))
 rotate_left
 have b5_ := zaA h3_
 rotate_left
 all_goals
  obtain rfl := Option.some.inj h
  refine E.s fun n x => ?_
  simp -dsimp -implicitDefEqProofs only [go_sem, func62, f62, *, simprocAttr]
theorem ziL (a : zaR) (b : zaR) : Ev cfg 78 [(.agg (zbi a)), (.agg (zbi b))] (.int .i64 (ziq a b)) := ziH (zgY 0 a b)
theorem zfp (a : Val) (b : Val) : Ev cfg 62 [(.agg (zbv a)), (.agg (zbv b))] (.int .i64 (zco a b)) := zl3 (ziK 0 a b)
def zbs (c2 : zah) (c3 : zah) (K : Ex → St → Option Res) (R : Option Res) : Out (Int) (Int) → Prop
 | .ret r => ∀ (e : Env) (m : Mem), e 4 = (.int .i64 r) → K .ret ⟨e, m⟩ = R
 | .done q => ∀ (e : Env) (m : Mem), zeQ (e 2) m 2 10 (zaS c2) → zeQ (e 3) m 3 10 (zaS c3) → K (.exit 0) ⟨e, m⟩ = R
noncomputable def zgx : Code := zcB f55 [1, 1, 1, 0, 1, 0, 0]
abbrev zhE (sz : Nat) : Prop := (∀ (a : zah) (b : zah), zd4 a + zd4 b < sz → Ev cfg 55 [(.agg (zaS a)), (.agg (zaS b))] (.int .i64 (zed a b))) ∧ (∀ (a : (Sl zaf)) (b : (Sl zaf)), zaW a.l + zaW b.l < sz → Ev cfg 56 [(dSl zar a), (dSl zar b)] (.int .i64 (zcp a b))) ∧ (∀ (a : (Sl zac)) (b : (Sl zac)), zbR a.l + zbR b.l < sz → Ev cfg 79 [(dSl zao a), (dSl zao b)] (.int .i64 (zeN a b))) ∧ (∀ (a : (Sl zaE)) (b : (Sl zaE)), zat a.l + zat b.l < sz → Ev cfg 33 [(dSl zaL a), (dSl zaL b)] (.int .i64 (zcA a b)))
theorem zdK {c2 : zah} {c3 : zah} {sz : Nat} (hg : zhE sz) {kk : Nat} : ∀ {k : Nat} {s1 : Int} {out : Out (Int) (Int)}, za2 c2 c3 sz kk k s1 = some out → ∃ N, ∀ n, N ≤ n → ∀ k, N ≤ k → ∀ (e : Env) (m : Mem), zeQ (e 2) m 2 10 (zaS c2) → zeQ (e 3) m 3 10 (zaS c3) → e 7 = (.int .i64 s1) → ∀ (K : Ex → St → Option Res) (R : Option Res), zbs c2 c3 K R out → zci (zbu cfg (dfn cfg n) n zgx) K k ⟨e, m⟩ = R := by
 have ⟨_, _, _, hC⟩ := hg
 intro k
 induction k with
 | zero => intro s1 out h; cases h
 | succ k ih => ?_
 intro s1 out h
 have ih := fun x0 {out} => @ih x0 out
 unfold za2 at h
 have E := evT
 rcases zag h with ⟨h1_, h⟩ | ⟨h1_, h⟩
 obtain ⟨b2_, b3_⟩ := zbX h1_
 obtain ⟨y4, h4_, h⟩ := zaa h
 obtain ⟨_, h5_⟩ := za7 h4_
 have h5_ := zbc h5_ (cSl zaL)
 obtain ⟨y5, h6_, h⟩ := zaa h
 obtain ⟨_, h7_⟩ := za7 h6_
 have h7_ := zbc h7_ (cSl zaL)
 obtain ⟨_, h8_, h⟩ := zaa h
 have E := E.and (hC y4 y5 (zay h8_))
 rcases zag h with ⟨h9_, h⟩ | ⟨h9_, h⟩
 rotate_left
 rotate_left
 rcases zbA h1_ with b10_ | ⟨b10_, b11_⟩
 rotate_left
 rotate_left
 all_goals
  first | (obtain rfl := Option.some.inj h; refine E.l fun n k x => ?_) | refine E.c (ih _ h) fun n k x I => ?_
  intro e m i0 i1 i2 K R hK
  obtain ⟨_, _, _⟩ := i0
  obtain ⟨_, _, _⟩ := i1
  rw [zaP]
  (conv => lhs; arg 4; whnf)
  first | (simp -dsimp -implicitDefEqProofs only [go_sem, *, simprocAttr]; simp only [zbs] at hK; refine hK _ _ ?_; simp -dsimp -implicitDefEqProofs only [go_sem, *, simprocAttr]) | (simp -dsimp -implicitDefEqProofs only [go_sem, *, simprocAttr]; refine zan (I.1 _ _ ?_ ?_ ?_ _ _ hK); (iterate 3 (simp -dsimp -implicitDefEqProofs only [go_sem, *, simprocAttr]))) | (simp -dsimp -implicitDefEqProofs only [go_sem, *, simprocAttr]; simp only [zbs] at hK; refine hK _ _ ?_ ?_; (iterate 2 (simp -dsimp -implicitDefEqProofs only [go_sem, *, simprocAttr])))
theorem zh7 {kk : Nat} {a : zah} {b : zah} {sz : Nat} (hg : zhE sz) {r : Int} (h : zcx kk sz a b = some r) : Ev cfg 55 [(.agg (zaS a)), (.agg (zaS b))] (.int .i64 r) := by
 have ⟨_, _, hI, _⟩ := hg
 unfold zcx at h
 have E := evT
 have E := E.and (zbl a.kind b.kind)
 rcases zag h with ⟨h12_, h⟩ | ⟨h12_, h⟩
 rotate_left
 have E := E.and (ziL a.row b.row)
 rcases zag h with ⟨h13_, h⟩ | ⟨h13_, h⟩
 rotate_left
 rcases zaX h with ⟨r16_, o15_, h⟩ | ⟨q7, o15_, h⟩
 obtain ⟨_, l14_, E⟩ := E.lp (zdK hg o15_)
 rotate_left
 obtain ⟨_, l17_, E⟩ := E.lp (zdK hg o15_)
 have E := E.and (zbl (a.args.l.length : Int) (b.args.l.length : Int))
 rcases zag h with ⟨h18_, h⟩ | ⟨h18_, h⟩
 rotate_left
 have E := E.and (zbl a.func b.func)
 rcases zag h with ⟨h19_, h⟩ | ⟨h19_, h⟩
 rotate_left
 obtain ⟨_, h20_, h⟩ := zaa h
 have E := E.and (hI a.items b.items (zay h20_))
 rcases zag h with ⟨h21_, h⟩ | ⟨h21_, h⟩
 rotate_left
 have E := E.and (zbl a.op b.op)
 rcases zag h with ⟨h22_, h⟩ | ⟨h22_, h⟩
 rotate_left
 have E := E.and (zfp a.bound b.bound)
 rotate_left
 all_goals
  obtain rfl := Option.some.inj h
  refine E.s fun n x => ?_
  first | (have := l14_; simp -dsimp -implicitDefEqProofs only [go_sem, func55, f55, *, simprocAttr]; refine zan (l14_.1 n (by omega) _ _ ?_ ?_ ?_ _ _ ?_); (iterate 3 (simp -dsimp -implicitDefEqProofs only [go_sem, *, simprocAttr])); simp only [zbs]; intro e m i0; simp -dsimp -implicitDefEqProofs only [go_sem, func55, f55, *, simprocAttr]) | (have := l17_; simp -dsimp -implicitDefEqProofs only [go_sem, func55, f55, *, simprocAttr]; refine zan (l17_.1 n (by omega) _ _ ?_ ?_ ?_ _ _ ?_); (iterate 3 (simp -dsimp -implicitDefEqProofs only [go_sem, *, simprocAttr])); simp only [zbs]; intro e m i0 i1; obtain ⟨_, _, _⟩ := i0; obtain ⟨_, _, _⟩ := i1; simp -dsimp -implicitDefEqProofs only [go_sem, func55, f55, *, simprocAttr]) | (simp -dsimp -implicitDefEqProofs only [go_sem, func55, f55, *, simprocAttr])
def za9 (c1 : Sl zaf) (c2 : Sl zaf) (K : Ex → St → Option Res) (R : Option Res) : Out (Int) (Int) → Prop
 | .ret r => ∀ (e : Env) (m : Mem), e 4 = (.int .i64 r) → K .ret ⟨e, m⟩ = R
 | .done q => ∀ (e : Env) (m : Mem), e 0 = (dSl zar c1) → e 1 = (dSl zar c2) → K (.exit 0) ⟨e, m⟩ = R
noncomputable def zfr : Code := zcB f56 [1, 0, 1, 0, 0]
theorem zdc {c1 : Sl zaf} {c2 : Sl zaf} {sz : Nat} (hg : zhE sz) {kk : Nat} : ∀ {k : Nat} {s3 : Int} {out : Out (Int) (Int)}, zbJ c1 c2 sz kk k s3 = some out → ∃ N, ∀ n, N ≤ n → ∀ k, N ≤ k → ∀ (e : Env) (m : Mem), e 0 = (dSl zar c1) → e 1 = (dSl zar c2) → e 5 = (.int .i64 s3) → ∀ (K : Ex → St → Option Res) (R : Option Res), za9 c1 c2 K R out → zci (zbu cfg (dfn cfg n) n zfr) K k ⟨e, m⟩ = R := by
 have ⟨hA, _, _, _⟩ := hg
 intro k
 induction k with
 | zero => intro s3 out h; cases h
 | succ k ih => ?_
 intro s3 out h
 have ih := fun x0 {out} => @ih x0 out
 unfold zbJ at h
 have E := evT
 rcases zag h with ⟨h1_, h⟩ | ⟨h1_, h⟩
 obtain ⟨b2_, b3_⟩ := zbX h1_
 obtain ⟨y4, h4_, h⟩ := zaa h
 obtain ⟨_, h5_⟩ := za7 h4_
 have h5_ := zbc h5_ zar
 obtain ⟨y5, h6_, h⟩ := zaa h
 obtain ⟨_, h7_⟩ := za7 h6_
 have h7_ := zbc h7_ zar
 obtain ⟨_, h8_, h⟩ := zaa h
 have E := E.and (hA y4.atom y5.atom (zay h8_))
 rcases zag h with ⟨h9_, h⟩ | ⟨h9_, h⟩
 rotate_left
 have E := E.and (zbl y4.exp y5.exp)
 rcases zag h with ⟨h10_, h⟩ | ⟨h10_, h⟩
 rotate_left
 rotate_left
 rcases zbA h1_ with b11_ | ⟨b11_, b12_⟩
 rotate_left
 rotate_left
 all_goals
  first | (obtain rfl := Option.some.inj h; refine E.l fun n k x => ?_) | refine E.c (ih _ h) fun n k x I => ?_
  intro e m i0 i1 i2 K R hK
  rw [zaP]
  (conv => lhs; arg 4; whnf)
  first | (simp -dsimp -implicitDefEqProofs only [go_sem, *, simprocAttr]; simp only [za9] at hK; refine hK _ _ ?_; simp -dsimp -implicitDefEqProofs only [go_sem, *, simprocAttr]) | (simp -dsimp -implicitDefEqProofs only [go_sem, *, simprocAttr]; refine zan (I.1 _ _ ?_ ?_ ?_ _ _ hK); (iterate 3 (simp -dsimp -implicitDefEqProofs only [go_sem, *, simprocAttr]))) | (simp -dsimp -implicitDefEqProofs only [go_sem, *, simprocAttr]; simp only [za9] at hK; refine hK _ _ ?_ ?_; (iterate 2 (simp -dsimp -implicitDefEqProofs only [go_sem, *, simprocAttr])))
theorem zgt {kk : Nat} {a : (Sl zaf)} {b : (Sl zaf)} {sz : Nat} (hg : zhE sz) {r : Int} (h : zbV kk sz a b = some r) : Ev cfg 56 [(dSl zar a), (dSl zar b)] (.int .i64 r) := by
 unfold zbV at h
 have E := evT
 rcases zaX h with ⟨r15_, o14_, h⟩ | ⟨q7, o14_, h⟩
 obtain ⟨_, l13_, E⟩ := E.lp (zdc hg o14_)
 rotate_left
 obtain ⟨_, l16_, E⟩ := E.lp (zdc hg o14_)
 have E := E.and (zbl (a.l.length : Int) (b.l.length : Int))
 rotate_left
 all_goals
  obtain rfl := Option.some.inj h
  refine E.s fun n x => ?_
  first | (have := l13_; simp -dsimp -implicitDefEqProofs only [go_sem, func56, f56, *, simprocAttr]; refine zan (l13_.1 n (by omega) _ _ ?_ ?_ ?_ _ _ ?_); (iterate 3 (simp -dsimp -implicitDefEqProofs only [go_sem, *, simprocAttr])); simp only [za9]; intro e m i0; simp -dsimp -implicitDefEqProofs only [go_sem, func56, f56, *, simprocAttr]) | (have := l16_; simp -dsimp -implicitDefEqProofs only [go_sem, func56, f56, *, simprocAttr]; refine zan (l16_.1 n (by omega) _ _ ?_ ?_ ?_ _ _ ?_); (iterate 3 (simp -dsimp -implicitDefEqProofs only [go_sem, *, simprocAttr])); simp only [za9]; intro e m i0 i1; simp -dsimp -implicitDefEqProofs only [go_sem, func56, f56, *, simprocAttr])
def zbk (c1 : Sl zac) (c2 : Sl zac) (K : Ex → St → Option Res) (R : Option Res) : Out (Int) (Int) → Prop
 | .ret r => ∀ (e : Env) (m : Mem), e 4 = (.int .i64 r) → K .ret ⟨e, m⟩ = R
 | .done q => ∀ (e : Env) (m : Mem), e 0 = (dSl zao c1) → e 1 = (dSl zao c2) → K (.exit 0) ⟨e, m⟩ = R
noncomputable def zf2 : Code := zcB f79 [1, 0, 1, 0, 0]
theorem zdA {c1 : Sl zac} {c2 : Sl zac} {sz : Nat} (hg : zhE sz) {kk : Nat} : ∀ {k : Nat} {s3 : Int} {out : Out (Int) (Int)}, zbU c1 c2 sz kk k s3 = some out → ∃ N, ∀ n, N ≤ n → ∀ k, N ≤ k → ∀ (e : Env) (m : Mem), e 0 = (dSl zao c1) → e 1 = (dSl zao c2) → e 5 = (.int .i64 s3) → ∀ (K : Ex → St → Option Res) (R : Option Res), zbk c1 c2 K R out → zci (zbu cfg (dfn cfg n) n zf2) K k ⟨e, m⟩ = R := by
 have ⟨_, _, _, hC⟩ := hg
 intro k
 induction k with
 | zero => intro s3 out h; cases h
 | succ k ih => ?_
 intro s3 out h
 have ih := fun x0 {out} => @ih x0 out
 unfold zbU at h
 have E := evT
 rcases zag h with ⟨h1_, h⟩ | ⟨h1_, h⟩
 obtain ⟨b2_, b3_⟩ := zbX h1_
 obtain ⟨y4, h4_, h⟩ := zaa h
 obtain ⟨_, h5_⟩ := za7 h4_
 have h5_ := zbc h5_ zao
 obtain ⟨y5, h6_, h⟩ := zaa h
 obtain ⟨_, h7_⟩ := za7 h6_
 have h7_ := zbc h7_ zao
 have E := E.and (zfp y4.value y5.value)
 rcases zag h with ⟨h8_, h⟩ | ⟨h8_, h⟩
 rotate_left
 obtain ⟨_, h9_, h⟩ := zaa h
 have E := E.and (hC y4.ann y5.ann (zay h9_))
 rcases zag h with ⟨h10_, h⟩ | ⟨h10_, h⟩
 rotate_left
 rotate_left
 rcases zbA h1_ with b11_ | ⟨b11_, b12_⟩
 rotate_left
 rotate_left
 all_goals
  first | (obtain rfl := Option.some.inj h; refine E.l fun n k x => ?_) | refine E.c (ih _ h) fun n k x I => ?_
  intro e m i0 i1 i2 K R hK
  rw [zaP]
  (conv => lhs; arg 4; whnf)
  first | (simp -dsimp -implicitDefEqProofs only [go_sem, *, simprocAttr]; simp only [zbk] at hK; refine hK _ _ ?_; simp -dsimp -implicitDefEqProofs only [go_sem, *, simprocAttr]) | (simp -dsimp -implicitDefEqProofs only [go_sem, *, simprocAttr]; refine zan (I.1 _ _ ?_ ?_ ?_ _ _ hK); (iterate 3 (simp -dsimp -implicitDefEqProofs only [go_sem, *, simprocAttr]))) | (simp -dsimp -implicitDefEqProofs only [go_sem, *, simprocAttr]; simp only [zbk] at hK; refine hK _ _ ?_ ?_; (iterate 2 (simp -dsimp -implicitDefEqProofs only [go_sem, *, simprocAttr])))
theorem zhy {kk : Nat} {a : (Sl zac)} {b : (Sl zac)} {sz : Nat} (hg : zhE sz) {r : Int} (h : zch kk sz a b = some r) : Ev cfg 79 [(dSl zao a), (dSl zao b)] (.int .i64 r) := by
 unfold zch at h
 have E := evT
 rcases zaX h with ⟨r15_, o14_, h⟩ | ⟨q7, o14_, h⟩
 obtain ⟨_, l13_, E⟩ := E.lp (zdA hg o14_)
 rotate_left
 obtain ⟨_, l16_, E⟩ := E.lp (zdA hg o14_)
 have E := E.and (zbl (a.l.length : Int) (b.l.length : Int))
 rotate_left
 all_goals
  obtain rfl := Option.some.inj h
  refine E.s fun n x => ?_
  first | (have := l13_; simp -dsimp -implicitDefEqProofs only [go_sem, func79, f79, *, simprocAttr]; refine zan (l13_.1 n (by omega) _ _ ?_ ?_ ?_ _ _ ?_); (iterate 3 (simp -dsimp -implicitDefEqProofs only [go_sem, *, simprocAttr])); simp only [zbk]; intro e m i0; simp -dsimp -implicitDefEqProofs only [go_sem, func79, f79, *, simprocAttr]) | (have := l16_; simp -dsimp -implicitDefEqProofs only [go_sem, func79, f79, *, simprocAttr]; refine zan (l16_.1 n (by omega) _ _ ?_ ?_ ?_ _ _ ?_); (iterate 3 (simp -dsimp -implicitDefEqProofs only [go_sem, *, simprocAttr])); simp only [zbk]; intro e m i0 i1; simp -dsimp -implicitDefEqProofs only [go_sem, func79, f79, *, simprocAttr])
def zb8 (c1 : Sl zaE) (c2 : Sl zaE) (K : Ex → St → Option Res) (R : Option Res) : Out (Int) (Int) → Prop
 | .ret r => ∀ (e : Env) (m : Mem), e 4 = (.int .i64 r) → K .ret ⟨e, m⟩ = R
 | .done q => ∀ (e : Env) (m : Mem), e 0 = (dSl zaL c1) → e 1 = (dSl zaL c2) → K (.exit 0) ⟨e, m⟩ = R
noncomputable def ziN : Code := zcB f33 [1, 0, 1, 0, 0]
theorem zft {c1 : Sl zaE} {c2 : Sl zaE} {sz : Nat} (hg : zhE sz) {kk : Nat} : ∀ {k : Nat} {s3 : Int} {out : Out (Int) (Int)}, zdi c1 c2 sz kk k s3 = some out → ∃ N, ∀ n, N ≤ n → ∀ k, N ≤ k → ∀ (e : Env) (m : Mem), e 0 = (dSl zaL c1) → e 1 = (dSl zaL c2) → e 5 = (.int .i64 s3) → ∀ (K : Ex → St → Option Res) (R : Option Res), zb8 c1 c2 K R out → zci (zbu cfg (dfn cfg n) n ziN) K k ⟨e, m⟩ = R := by
 have ⟨_, hF, _, _⟩ := hg
 intro k
 induction k with
 | zero => intro s3 out h; cases h
 | succ k ih => ?_
 intro s3 out h
 have ih := fun x0 {out} => @ih x0 out
 unfold zdi at h
 have E := evT
 rcases zag h with ⟨h1_, h⟩ | ⟨h1_, h⟩
 obtain ⟨b2_, b3_⟩ := zbX h1_
 obtain ⟨y4, h4_, h⟩ := zaa h
 obtain ⟨_, h5_⟩ := za7 h4_
 have h5_ := zbc h5_ zaL
 obtain ⟨y5, h6_, h⟩ := zaa h
 obtain ⟨_, h7_⟩ := za7 h6_
 have h7_ := zbc h7_ zaL
 obtain ⟨_, h8_, h⟩ := zaa h
 have E := E.and (hF y4.factors y5.factors (zay h8_))
 rcases zag h with ⟨h9_, h⟩ | ⟨h9_, h⟩
 rotate_left
 have E := E.and (zbl y4.coeff y5.coeff)
 rcases zag h with ⟨h10_, h⟩ | ⟨h10_, h⟩
 rotate_left
 rotate_left
 rcases zbA h1_ with b11_ | ⟨b11_, b12_⟩
 rotate_left
 rotate_left
 all_goals
  first | (obtain rfl := Option.some.inj h; refine E.l fun n k x => ?_) | refine E.c (ih _ h) fun n k x I => ?_
  intro e m i0 i1 i2 K R hK
  rw [zaP]
  (conv => lhs; arg 4; whnf)
  first | (simp -dsimp -implicitDefEqProofs only [go_sem, *, simprocAttr]; simp only [zb8] at hK; refine hK _ _ ?_; simp -dsimp -implicitDefEqProofs only [go_sem, *, simprocAttr]) | (simp -dsimp -implicitDefEqProofs only [go_sem, *, simprocAttr]; refine zan (I.1 _ _ ?_ ?_ ?_ _ _ hK); (iterate 3 (simp -dsimp -implicitDefEqProofs only [go_sem, *, simprocAttr]))) | (simp -dsimp -implicitDefEqProofs only [go_sem, *, simprocAttr]; simp only [zb8] at hK; refine hK _ _ ?_ ?_; (iterate 2 (simp -dsimp -implicitDefEqProofs only [go_sem, *, simprocAttr])))
theorem zl2 {kk : Nat} {a : (Sl zaE)} {b : (Sl zaE)} {sz : Nat} (hg : zhE sz) {r : Int} (h : zdY kk sz a b = some r) : Ev cfg 33 [(dSl zaL a), (dSl zaL b)] (.int .i64 r) := by
 unfold zdY at h
 have E := evT
 rcases zaX h with ⟨r15_, o14_, h⟩ | ⟨q7, o14_, h⟩
 obtain ⟨_, l13_, E⟩ := E.lp (zft hg o14_)
 rotate_left
 obtain ⟨_, l16_, E⟩ := E.lp (zft hg o14_)
 have E := E.and (zbl (a.l.length : Int) (b.l.length : Int))
 rotate_left
 all_goals
  obtain rfl := Option.some.inj h
  refine E.s fun n x => ?_
  first | (have := l13_; simp -dsimp -implicitDefEqProofs only [go_sem, func33, f33, *, simprocAttr]; refine zan (l13_.1 n (by omega) _ _ ?_ ?_ ?_ _ _ ?_); (iterate 3 (simp -dsimp -implicitDefEqProofs only [go_sem, *, simprocAttr])); simp only [zb8]; intro e m i0; simp -dsimp -implicitDefEqProofs only [go_sem, func33, f33, *, simprocAttr]) | (have := l16_; simp -dsimp -implicitDefEqProofs only [go_sem, func33, f33, *, simprocAttr]; refine zan (l16_.1 n (by omega) _ _ ?_ ?_ ?_ _ _ ?_); (iterate 3 (simp -dsimp -implicitDefEqProofs only [go_sem, *, simprocAttr])); simp only [zb8]; intro e m i0 i1; simp -dsimp -implicitDefEqProofs only [go_sem, func33, f33, *, simprocAttr])
theorem zn7 : ∀ s : Nat, s < big → zhE s := by
 intro s
 induction s with
 | zero => intro _; exact ⟨fun _ _ h => absurd h (by omega), fun _ _ h => absurd h (by omega), fun _ _ h => absurd h (by omega), fun _ _ h => absurd h (by omega)⟩
 | succ s ih =>
   intro hb
   have hg := ih (by omega)
   exact ⟨
    fun a b h => zh7 (sz := s) hg (zgu (kk := s + 1) (sz := s) (by omega) (by omega) (by omega)),
    fun a b h => zgt (sz := s) hg (zfn (kk := s + 1) (sz := s) (by omega) (by omega) (by omega)),
    fun a b h => zhy (sz := s) hg (zf1 (kk := s + 1) (sz := s) (by omega) (by omega) (by omega)),
    fun a b h => zl2 (sz := s) hg (ziJ (kk := s + 1) (sz := s) (by omega) (by omega) (by omega))⟩
theorem zmb (a : (Sl zaE)) (b : (Sl zaE)) (h : zat a.l + zat b.l < big - 1) : Ev cfg 33 [(dSl zaL a), (dSl zaL b)] (.int .i64 (zcA a b)) := (zn7 (big - 1) (by unfold big; omega)).2.2.2 a b h
end Go.Proofs.Tryz
set_option maxRecDepth 100000
set_option maxHeartbeats 4000000
set_option linter.unusedSimpArgs false
set_option linter.unusedVariables false
namespace Go.Proofs.Tryz
open Go.Ev
def zdf (c26 : Sl zaE) (c27 : Int) (c28 : Int) (c30 : Int) (c31 : Int) (c33 : zah) (K : Ex → St → Option Res) (R : Option Res) : Out (Int) (Int × Int) → Prop
 | .ret r => ∀ (e : Env) (m : Mem), e 6 = (.int .i64 r) → K .ret ⟨e, m⟩ = R
 | .done q => ∀ (e : Env) (m : Mem), e 0 = (dSl zaL c26) → e 1 = (.int .i64 c27) → e 2 = (.int .i64 c28) → e 7 = (.int .i64 q.1) → e 8 = (.int .i64 c30) → e 9 = (.int .i64 c31) → K (.exit 6) ⟨e, m⟩ = R
noncomputable def zjW : Code := zcB f61 [1, 1, 1, 0, 1, 0, 0, 1, 0, 0, 1, 1, 0, 0, 1, 0, 0, 1, 1, 1, 1, 0, 0]
abbrev zkZ (sz : Nat) : Prop := (∀ (a : (Sl zaE)) (b : Int) (c : Int), (zat a.l < sz ∧ zat a.l < lim ∧ 0 ≤ b ∧ b ≤ 4294967296 ∧ 0 ≤ c ∧ c ≤ 4294967296) → Ev cfg 61 [(dSl zaL a), (.int .i64 b), (.int .i64 c)] (.int .i64 (zk7 a b c)))
theorem zfV {c26 : Sl zaE} {c27 : Int} {c28 : Int} {c30 : Int} {c31 : Int} {c33 : zah} {sz : Nat} (hg : zkZ sz) {kk : Nat} : ∀ {k : Nat} {s29 : Int} {s32 : Int} {out : Out (Int) (Int × Int)}, zbx c26 c27 c28 c30 c31 c33 sz kk k s29 s32 = some out → ∃ N, ∀ n, N ≤ n → ∀ k, N ≤ k → ∀ (e : Env) (m : Mem), e 0 = (dSl zaL c26) → e 1 = (.int .i64 c27) → e 2 = (.int .i64 c28) → e 7 = (.int .i64 s29) → e 8 = (.int .i64 c30) → e 9 = (.int .i64 c31) → zeQ (e 10) m 10 10 (zaS c33) → e 12 = (.int .i64 s32) → ∀ (K : Ex → St → Option Res) (R : Option Res), zdf c26 c27 c28 c30 c31 c33 K R out → zci (zbu cfg (dfn cfg n) n zjW) K k ⟨e, m⟩ = R := by
 have hW := hg
 intro k
 induction k with
 | zero => intro s29 s32 out h; cases h
 | succ k ih => ?_
 intro s29 s32 out h
 have ih := fun x0 x1 {out} => @ih x0 x1 out
 unfold zbx at h
 have E := evT
 rcases zag h with ⟨h1_, h⟩ | ⟨h1_, h⟩
 obtain ⟨b2_, b3_⟩ := zbX h1_
 obtain ⟨y34, h4_, h⟩ := zaa h
 obtain ⟨_, h5_⟩ := za7 h4_
 have h5_ := zbc h5_ zao
 obtain ⟨_, h6_, h⟩ := zaa h
 have E := E.and (hW y34.ann (IntKind.wrap .i64 (c27 - s29)) (IntKind.wrap .i64 (c28 - 1)) (zay h6_))
 rotate_left
 rcases zbA h1_ with b7_ | ⟨b7_, b8_⟩
 rotate_left
 rotate_left
 all_goals
  first | (obtain rfl := Option.some.inj h; refine E.l fun n k x => ?_) | refine E.c (ih _ _ h) fun n k x I => ?_
  intro e m i0 i1 i2 i3 i4 i5 i6 i7 K R hK
  obtain ⟨_, _, _⟩ := i6
  rw [zaP]
  (conv => lhs; arg 4; whnf)
  first | (simp -dsimp -implicitDefEqProofs only [go_sem, *, simprocAttr]; refine zan (I.1 _ _ ?_ ?_ ?_ ?_ ?_ ?_ ?_ ?_ _ _ hK); (iterate 8 (simp -dsimp -implicitDefEqProofs only [go_sem, *, simprocAttr]))) | (simp -dsimp -implicitDefEqProofs only [go_sem, *, simprocAttr]; simp only [zdf] at hK; refine hK _ _ ?_ ?_ ?_ ?_ ?_ ?_; (iterate 6 (simp -dsimp -implicitDefEqProofs only [go_sem, *, simprocAttr])))
def zdg (c15 : Sl zaE) (c16 : Int) (c17 : Int) (c19 : Int) (c20 : Int) (c22 : zah) (K : Ex → St → Option Res) (R : Option Res) : Out (Int) (Int × Int) → Prop
 | .ret r => ∀ (e : Env) (m : Mem), e 6 = (.int .i64 r) → K .ret ⟨e, m⟩ = R
 | .done q => ∀ (e : Env) (m : Mem), e 0 = (dSl zaL c15) → e 1 = (.int .i64 c16) → e 2 = (.int .i64 c17) → e 7 = (.int .i64 q.1) → e 8 = (.int .i64 c19) → e 9 = (.int .i64 c20) → zeQ (e 10) m 10 10 (zaS c22) → K (.exit 4) ⟨e, m⟩ = R
noncomputable def zjX : Code := zcB f61 [1, 1, 1, 0, 1, 0, 0, 1, 0, 0, 1, 1, 0, 0, 1, 0, 0, 1, 1, 0, 1, 0, 0]
theorem zfW {c15 : Sl zaE} {c16 : Int} {c17 : Int} {c19 : Int} {c20 : Int} {c22 : zah} {sz : Nat} (hg : zkZ sz) {kk : Nat} : ∀ {k : Nat} {s18 : Int} {s21 : Int} {out : Out (Int) (Int × Int)}, zby c15 c16 c17 c19 c20 c22 sz kk k s18 s21 = some out → ∃ N, ∀ n, N ≤ n → ∀ k, N ≤ k → ∀ (e : Env) (m : Mem), e 0 = (dSl zaL c15) → e 1 = (.int .i64 c16) → e 2 = (.int .i64 c17) → e 7 = (.int .i64 s18) → e 8 = (.int .i64 c19) → e 9 = (.int .i64 c20) → zeQ (e 10) m 10 10 (zaS c22) → e 11 = (.int .i64 s21) → ∀ (K : Ex → St → Option Res) (R : Option Res), zdg c15 c16 c17 c19 c20 c22 K R out → zci (zbu cfg (dfn cfg n) n zjX) K k ⟨e, m⟩ = R := by
 have hW := hg
 intro k
 induction k with
 | zero => intro s18 s21 out h; cases h
 | succ k ih => ?_
 intro s18 s21 out h
 have ih := fun x0 x1 {out} => @ih x0 x1 out
 unfold zby at h
 have E := evT
 rcases zag h with ⟨h9_, h⟩ | ⟨h9_, h⟩
 obtain ⟨b10_, b11_⟩ := zbX h9_
 obtain ⟨y23, h12_, h⟩ := zaa h
 obtain ⟨_, h13_⟩ := za7 h12_
 have h13_ := zbc h13_ (cSl zaL)
 obtain ⟨_, h14_, h⟩ := zaa h
 have E := E.and (hW y23 (IntKind.wrap .i64 (c16 - s18)) (IntKind.wrap .i64 (c17 - 1)) (zay h14_))
 rotate_left
 rcases zbA h9_ with b15_ | ⟨b15_, b16_⟩
 rotate_left
 rotate_left
 all_goals
  first | (obtain rfl := Option.some.inj h; refine E.l fun n k x => ?_) | refine E.c (ih _ _ h) fun n k x I => ?_
  intro e m i0 i1 i2 i3 i4 i5 i6 i7 K R hK
  obtain ⟨_, _, _⟩ := i6
  rw [zaP]
  (conv => lhs; arg 4; whnf)
  first | (simp -dsimp -implicitDefEqProofs only [go_sem, *, simprocAttr]; refine zan (I.1 _ _ ?_ ?_ ?_ ?_ ?_ ?_ ?_ ?_ _ _ hK); (iterate 8 (simp -dsimp -implicitDefEqProofs only [go_sem, *, simprocAttr]))) | (simp -dsimp -implicitDefEqProofs only [go_sem, *, simprocAttr]; simp only [zdg] at hK; refine hK _ _ ?_ ?_ ?_ ?_ ?_ ?_ ?_; (iterate 7 (simp -dsimp -implicitDefEqProofs only [go_sem, *, simprocAttr])))
def zbY (c7 : Sl zaE) (c8 : Int) (c9 : Int) (c11 : Int) (K : Ex → St → Option Res) (R : Option Res) : Out (Int) (Int × Int) → Prop
 | .ret r => ∀ (e : Env) (m : Mem), e 6 = (.int .i64 r) → K .ret ⟨e, m⟩ = R
 | .done q => ∀ (e : Env) (m : Mem), e 0 = (dSl zaL c7) → e 1 = (.int .i64 c8) → e 2 = (.int .i64 c9) → e 7 = (.int .i64 q.1) → e 8 = (.int .i64 c11) → K (.exit 2) ⟨e, m⟩ = R
noncomputable def zjY : Code := zcB f61 [1, 1, 1, 0, 1, 0, 0, 1, 0, 0, 1, 1, 0, 0]
theorem zfX {c7 : Sl zaE} {c8 : Int} {c9 : Int} {c11 : Int} {sz : Nat} (hg : zkZ sz) {kk : Nat} : ∀ {k : Nat} {s10 : Int} {s12 : Int} {out : Out (Int) (Int × Int)}, zbz c7 c8 c9 c11 sz kk k s10 s12 = some out → ∃ N, ∀ n, N ≤ n → ∀ k, N ≤ k → ∀ (e : Env) (m : Mem), e 0 = (dSl zaL c7) → e 1 = (.int .i64 c8) → e 2 = (.int .i64 c9) → e 7 = (.int .i64 s10) → e 8 = (.int .i64 c11) → e 9 = (.int .i64 s12) → ∀ (K : Ex → St → Option Res) (R : Option Res), zbY c7 c8 c9 c11 K R out → zci (zbu cfg (dfn cfg n) n zjY) K k ⟨e, m⟩ = R := by
 intro k
 induction k with
 | zero => intro s10 s12 out h; cases h
 | succ k ih => ?_
 intro s10 s12 out h
 have ih := fun x0 x1 {out} => @ih x0 x1 out
 unfold zbz at h
 have E := evT
 obtain ⟨y13, h17_, h⟩ := zaa h
 obtain ⟨_, h18_⟩ := za7 h17_
 have h18_ := zbc h18_ zaL
 rcases zag h with ⟨h19_, h⟩ | ⟨h19_, h⟩
 obtain ⟨b20_, b21_⟩ := zbX h19_
 obtain ⟨y14, h22_, h⟩ := zaa h
 obtain ⟨_, h23_⟩ := za7 h22_
 have h23_ := zbc h23_ zar
 rcases zaX h with ⟨r26_, o25_, h⟩ | ⟨q25, o25_, h⟩
 obtain ⟨_, l24_, E⟩ := E.lp (zfW hg o25_)
 rotate_left
 obtain ⟨_, l27_, E⟩ := E.lp (zfW hg o25_)
 rcases zaX h with ⟨r30_, o29_, h⟩ | ⟨q36, o29_, h⟩
 obtain ⟨_, l28_, E⟩ := E.lp (zfV hg o29_)
 rotate_left
 obtain ⟨_, l31_, E⟩ := E.lp (zfV hg o29_)
 rotate_left
 rcases zbA h19_ with b32_ | ⟨b32_, b33_⟩
 rotate_left
 rotate_left
 all_goals
  first | (obtain rfl := Option.some.inj h; refine E.l fun n k x => ?_) | refine E.c (ih _ _ h) fun n k x I => ?_
  intro e m i0 i1 i2 i3 i4 i5 K R hK
  rw [zaP]
  (conv => lhs; arg 4; whnf)
  first | (have := l24_; simp -dsimp -implicitDefEqProofs only [go_sem, *, simprocAttr]; refine zan (l24_.1 n (by omega) _ _ ?_ ?_ ?_ ?_ ?_ ?_ ?_ ?_ _ _ ?_); (iterate 8 (simp -dsimp -implicitDefEqProofs only [go_sem, *, simprocAttr])); simp only [zdg]; intro e m i0; (try simp -dsimp -implicitDefEqProofs only [go_sem, *, simprocAttr]); simp only [zbY] at hK; refine hK _ _ ?_; simp -dsimp -implicitDefEqProofs only [go_sem, *, simprocAttr]) | (have := l27_; simp -dsimp -implicitDefEqProofs only [go_sem, *, simprocAttr]; refine zan (l27_.1 n (by omega) _ _ ?_ ?_ ?_ ?_ ?_ ?_ ?_ ?_ _ _ ?_); (iterate 8 (simp -dsimp -implicitDefEqProofs only [go_sem, *, simprocAttr])); simp only [zdg]; intro e m i0 i1 i2 i3 i4 i5 i6; obtain ⟨_, _, _⟩ := i6; (first | (have := l28_; (try simp -dsimp -implicitDefEqProofs only [go_sem, *, simprocAttr]); refine zan (l28_.1 n (by omega) _ _ ?_ ?_ ?_ ?_ ?_ ?_ ?_ ?_ _ _ ?_); (iterate 8 (simp -dsimp -implicitDefEqProofs only [go_sem, *, simprocAttr])); simp only [zdf]; intro e m i0; (try simp -dsimp -implicitDefEqProofs only [go_sem, *, simprocAttr]); simp only [zbY] at hK; refine hK _ _ ?_; simp -dsimp -implicitDefEqProofs only [go_sem, *, simprocAttr]) | (have := l31_; (try simp -dsimp -implicitDefEqProofs only [go_sem, *, simprocAttr]); refine zan (l31_.1 n (by omega) _ _ ?_ ?_ ?_ ?_ ?_ ?_ ?_ ?_ _ _ ?_); (iterate 8 (simp -dsimp -implicitDefEqProofs only [go_sem, *, simprocAttr])); simp only [zdf]; intro e m i0 i1 i2 i3 i4 i5; (try simp -dsimp -implicitDefEqProofs only [go_sem, *, simprocAttr]); refine zan (I.1 _ _ ?_ ?_ ?_ ?_ ?_ ?_ _ _ hK); (iterate 6 (simp -dsimp -implicitDefEqProofs only [go_sem, *, simprocAttr]))))) | ((try simp -dsimp -implicitDefEqProofs only [go_sem, *, simprocAttr]); simp only [zbY] at hK; refine hK _ _ ?_ ?_ ?_ ?_ ?_; (iterate 5 (simp -dsimp -implicitDefEqProofs only [go_sem, *, simprocAttr])))
def zcs (c1 : Sl zaE) (c2 : Int) (c3 : Int) (K : Ex → St → Option Res) (R : Option Res) : Out (Int) (Int × Int) → Prop
 | .ret r => ∀ (e : Env) (m : Mem), e 6 = (.int .i64 r) → K .ret ⟨e, m⟩ = R
 | .done q => ∀ (e : Env) (m : Mem), e 7 = (.int .i64 q.1) → K (.exit 0) ⟨e, m⟩ = R
noncomputable def zjZ : Code := zcB f61 [1, 1, 1, 0, 1, 0, 0]
theorem zfY {c1 : Sl zaE} {c2 : Int} {c3 : Int} {sz : Nat} (hg : zkZ sz) {kk : Nat} : ∀ {k : Nat} {s4 : Int} {s5 : Int} {out : Out (Int) (Int × Int)}, zbT c1 c2 c3 sz kk k s4 s5 = some out → ∃ N, ∀ n, N ≤ n → ∀ k, N ≤ k → ∀ (e : Env) (m : Mem), e 0 = (dSl zaL c1) → e 1 = (.int .i64 c2) → e 2 = (.int .i64 c3) → e 7 = (.int .i64 s4) → e 8 = (.int .i64 s5) → ∀ (K : Ex → St → Option Res) (R : Option Res), zcs c1 c2 c3 K R out → zci (zbu cfg (dfn cfg n) n zjZ) K k ⟨e, m⟩ = R := by
 intro k
 induction k with
 | zero => intro s4 s5 out h; cases h
 | succ k ih => ?_
 intro s4 s5 out h
 have ih := fun x0 x1 {out} => @ih x0 x1 out
 unfold zbT at h
 have E := evT
 rcases zag h with ⟨h34_, h⟩ | ⟨h34_, h⟩
 obtain ⟨b35_, b36_⟩ := zbX h34_
 obtain ⟨y6, h37_, h⟩ := zaa h
 obtain ⟨_, h38_⟩ := za7 h37_
 have h38_ := zbc h38_ zaL
 rcases zaX h with ⟨r41_, o40_, h⟩ | ⟨q37, o40_, h⟩
 obtain ⟨_, l39_, E⟩ := E.lp (zfX hg o40_)
 rotate_left
 obtain ⟨_, l42_, E⟩ := E.lp (zfX hg o40_)
 rotate_left
 rcases zbA h34_ with b43_ | ⟨b43_, b44_⟩
 rotate_left
 rotate_left
 all_goals
  first | (obtain rfl := Option.some.inj h; refine E.l fun n k x => ?_) | refine E.c (ih _ _ h) fun n k x I => ?_
  intro e m i0 i1 i2 i3 i4 K R hK
  rw [zaP]
  (conv => lhs; arg 4; whnf)
  first | (have := l39_; simp -dsimp -implicitDefEqProofs only [go_sem, *, simprocAttr]; refine zan (l39_.1 n (by omega) _ _ ?_ ?_ ?_ ?_ ?_ ?_ _ _ ?_); (iterate 6 (simp -dsimp -implicitDefEqProofs only [go_sem, *, simprocAttr])); simp only [zbY]; intro e m i0; (try simp -dsimp -implicitDefEqProofs only [go_sem, *, simprocAttr]); simp only [zcs] at hK; refine hK _ _ ?_; simp -dsimp -implicitDefEqProofs only [go_sem, *, simprocAttr]) | (have := l42_; simp -dsimp -implicitDefEqProofs only [go_sem, *, simprocAttr]; refine zan (l42_.1 n (by omega) _ _ ?_ ?_ ?_ ?_ ?_ ?_ _ _ ?_); (iterate 6 (simp -dsimp -implicitDefEqProofs only [go_sem, *, simprocAttr])); simp only [zbY]; intro e m i0 i1 i2 i3 i4; (try simp -dsimp -implicitDefEqProofs only [go_sem, *, simprocAttr]); refine zan (I.1 _ _ ?_ ?_ ?_ ?_ ?_ _ _ hK); (iterate 5 (simp -dsimp -implicitDefEqProofs only [go_sem, *, simprocAttr]))) | ((try simp -dsimp -implicitDefEqProofs only [go_sem, *, simprocAttr]); simp only [zcs] at hK; refine hK _ _ ?_; simp -dsimp -implicitDefEqProofs only [go_sem, *, simprocAttr])
theorem znp {kk : Nat} {a : (Sl zaE)} {b : Int} {c : Int} {sz : Nat} (hg : zkZ sz) {r : Int} (h : zet kk sz a b c = some r) : Ev cfg 61 [(dSl zaL a), (.int .i64 b), (.int .i64 c)] (.int .i64 r) := by
 unfold zet at h
 have E := evT
 rcases zag h with ⟨h45_, h⟩ | ⟨h45_, h⟩
 rotate_left
 rcases zaX h with ⟨r48_, o47_, h⟩ | ⟨q38, o47_, h⟩
 obtain ⟨_, l46_, E⟩ := E.lp (zfY hg o47_)
 rotate_left
 obtain ⟨_, l49_, E⟩ := E.lp (zfY hg o47_)
 rotate_left
 all_goals
  obtain rfl := Option.some.inj h
  refine E.s fun n x => ?_
  first | (have := l46_; simp -dsimp -implicitDefEqProofs only [go_sem, func61, f61, *, simprocAttr]; refine zan (l46_.1 n (by omega) _ _ ?_ ?_ ?_ ?_ ?_ _ _ ?_); (iterate 5 (simp -dsimp -implicitDefEqProofs only [go_sem, *, simprocAttr])); simp only [zcs]; intro e m i0; simp -dsimp -implicitDefEqProofs only [go_sem, func61, f61, *, simprocAttr]) | (have := l49_; simp -dsimp -implicitDefEqProofs only [go_sem, func61, f61, *, simprocAttr]; refine zan (l49_.1 n (by omega) _ _ ?_ ?_ ?_ ?_ ?_ _ _ ?_); (iterate 5 (simp -dsimp -implicitDefEqProofs only [go_sem, *, simprocAttr])); simp only [zcs]; intro e m i0; simp -dsimp -implicitDefEqProofs only [go_sem, func61, f61, *, simprocAttr]) | (simp -dsimp -implicitDefEqProofs only [go_sem, func61, f61, *, simprocAttr])
theorem zj7 : ∀ s : Nat, s < big → zkZ s := by
 intro s
 induction s with
 | zero => intro _; exact fun _ _ _ h => absurd h (by omega)
 | succ s ih =>
   intro hb
   have hg := ih (by omega)
   exact
    fun a b c h => znp (sz := s) hg (zjS (kk := s + 1) (sz := s) (by omega) (by omega) (by omega))
theorem znx (a : (Sl zaE)) (b : Int) (c : Int) (h : (zat a.l < big - 1 ∧ zat a.l < lim ∧ 0 ≤ b ∧ b ≤ 4294967296 ∧ 0 ≤ c ∧ c ≤ 4294967296)) : Ev cfg 61 [(dSl zaL a), (.int .i64 b), (.int .i64 c)] (.int .i64 (zk7 a b c)) := (zj7 (big - 1) (by unfold big; omega)) a b c h
def zdD (c1 : Int) (c2 : Sl (Sl zaE)) (K : Ex → St → Option Res) (R : Option Res) : Out (Bool) (Int) → Prop
 | .ret r => ∀ (e : Env) (m : Mem), e 4 = (.bool r) → K .ret ⟨e, m⟩ = R
 | .done q => ∀ (e : Env) (m : Mem), K (.exit 0) ⟨e, m⟩ = R
noncomputable def znA : Code := zcB f38 [1, 0, 1, 0, 0]
theorem zix {c1 : Int} {c2 : Sl (Sl zaE)} {kk : Nat} : ∀ {k : Nat} {s3 : Int} {out : Out (Bool) (Int)}, zcQ c1 c2 kk k s3 = some out → ∃ N, ∀ n, N ≤ n → ∀ k, N ≤ k → ∀ (e : Env) (m : Mem), e 0 = (.int .i64 c1) → e 1 = (dSl (cSl zaL) c2) → e 5 = (.int .i64 s3) → ∀ (K : Ex → St → Option Res) (R : Option Res), zdD c1 c2 K R out → zci (zbu cfg (dfn cfg n) n znA) K k ⟨e, m⟩ = R := by
 intro k
 induction k with
 | zero => intro s3 out h; cases h
 | succ k ih => ?_
 intro s3 out h
 have ih := fun x0 {out} => @ih x0 out
 unfold zcQ at h
 have E := evT
 rcases zag h with ⟨h1_, h⟩ | ⟨h1_, h⟩
 obtain ⟨y4, h2_, h⟩ := zaa h
 obtain ⟨_, h3_⟩ := za7 h2_
 have h3_ := zbc h3_ (cSl zaL)
 obtain ⟨_, h4_, h⟩ := zaa h
 have E := E.and (znx y4 c1 12 (zay h4_))
 rcases zag h with ⟨h5_, h⟩ | ⟨h5_, h⟩
 rotate_left
 rotate_left
 rotate_left
 all_goals
  first | (obtain rfl := Option.some.inj h; refine E.l fun n k x => ?_) | refine E.c (ih _ h) fun n k x I => ?_
  intro e m i0 i1 i2 K R hK
  rw [zaP]
  (conv => lhs; arg 4; whnf)
  first | (simp -dsimp -implicitDefEqProofs only [go_sem, *, simprocAttr]; simp only [zdD] at hK; refine hK _ _ ?_; simp -dsimp -implicitDefEqProofs only [go_sem, *, simprocAttr]) | (simp -dsimp -implicitDefEqProofs only [go_sem, *, simprocAttr]; refine zan (I.1 _ _ ?_ ?_ ?_ _ _ hK); (iterate 3 (simp -dsimp -implicitDefEqProofs only [go_sem, *, simprocAttr]))) | (simp -dsimp -implicitDefEqProofs only [go_sem, *, simprocAttr]; simp only [zdD] at hK; refine hK _ _)
theorem zsY {kk : Nat} {a : Int} {b : (Sl (Sl zaE))} {r : Bool} (h : zhH kk a b = some r) : Ev cfg 38 [(.int .i64 a), (dSl (cSl zaL) b)] (.bool r) := by
 unfold zhH at h
 have E := evT
 rcases zaX h with ⟨r8_, o7_, h⟩ | ⟨q6, o7_, h⟩
 obtain ⟨_, l6_, E⟩ := E.lp (zix o7_)
 rotate_left
 obtain ⟨_, l9_, E⟩ := E.lp (zix o7_)
 rotate_left
 all_goals
  obtain rfl := Option.some.inj h
  refine E.s fun n x => ?_
  first | (have := l6_; simp -dsimp -implicitDefEqProofs only [go_sem, func38, f38, *, simprocAttr]; refine zan (l6_.1 n (by omega) _ _ ?_ ?_ ?_ _ _ ?_); (iterate 3 (simp -dsimp -implicitDefEqProofs only [go_sem, *, simprocAttr])); simp only [zdD]; intro e m i0; simp -dsimp -implicitDefEqProofs only [go_sem, func38, f38, *, simprocAttr]) | (have := l9_; simp -dsimp -implicitDefEqProofs only [go_sem, func38, f38, *, simprocAttr]; refine zan (l9_.1 n (by omega) _ _ ?_ ?_ ?_ _ _ ?_); (iterate 3 (simp -dsimp -implicitDefEqProofs only [go_sem, *, simprocAttr])); simp only [zdD]; intro e m; simp -dsimp -implicitDefEqProofs only [go_sem, func38, f38, *, simprocAttr])
theorem zs4 (a : Int) (b : Sl (Sl zaE)) (h : 0 ≤ a ∧ a ≤ 4294967296 ∧ zcE b.l < lim) : Ev cfg 38 [(.int .i64 a), (dSl (cSl zaL) b)] (.bool (zvD a b)) := zsY (znv (kk := big) h (by have := zd0 b.l; rw [zcV] at h; unfold big; omega))
end Go.Proofs.Tryz
set_option maxRecDepth 100000
set_option maxHeartbeats 4000000
set_option linter.unusedSimpArgs false
set_option linter.unusedVariables false
namespace Go.Proofs.Tryz
open Go.Ev
theorem zjM {kk : Nat} {a : Int} {b : Int} {r : Int} (h : zeT kk a b = some r) : Ev cfg 41 [(.int .u64 a), (.int .u8 b)] (.int .u64 r) := by
 unfold zeT at h
 have E := evT
 obtain rfl := Option.some.inj h
 refine E.s fun n x => ?_
 simp -dsimp -implicitDefEqProofs only [go_sem, func41, f41, *, simprocAttr]
def zdW (K : Ex → St → Option Res) (R : Option Res) : Out (Int) (Int × Int × Int) → Prop
 | .ret r => ∀ (e : Env) (m : Mem), e 4 = (.int .u64 r) → K .ret ⟨e, m⟩ = R
 | .done q => ∀ (e : Env) (m : Mem), e 0 = (.int .u64 q.1) → K (.exit 0) ⟨e, m⟩ = R
noncomputable def zme : Code := zcB f42 [1, 0, 1, 0, 0]
theorem zhA {kk : Nat} : ∀ {k : Nat} {s1 : Int} {s2 : Int} {s3 : Int} {out : Out (Int) (Int × Int × Int)}, zc1 kk k s1 s2 s3 = some out → ∃ N, ∀ n, N ≤ n → ∀ k, N ≤ k → ∀ (e : Env) (m : Mem), e 0 = (.int .u64 s1) → e 1 = (.int .u64 s2) → e 5 = (.int .i64 s3) → ∀ (K : Ex → St → Option Res) (R : Option Res), zdW K R out → zci (zbu cfg (dfn cfg n) n zme) K k ⟨e, m⟩ = R := by
 intro k
 induction k with
 | zero => intro s1 s2 s3 out h; cases h
 | succ k ih => ?_
 intro s1 s2 s3 out h
 have ih := fun x0 x1 x2 {out} => @ih x0 x1 x2 out
 unfold zc1 at h
 have E := evT
 rcases zag h with ⟨h1_, h⟩ | ⟨h1_, h⟩
 obtain ⟨r4, h2_, h⟩ := zaa h
 have E := E.and (zjM h2_)
 rotate_left
 rotate_left
 all_goals
  first | (obtain rfl := Option.some.inj h; refine E.l fun n k x => ?_) | refine E.c (ih _ _ _ h) fun n k x I => ?_
  intro e m i0 i1 i2 K R hK
  rw [zaP]
  (conv => lhs; arg 4; whnf)
  first | (simp -dsimp -implicitDefEqProofs only [go_sem, *, simprocAttr]; refine zan (I.1 _ _ ?_ ?_ ?_ _ _ hK); (iterate 3 (simp -dsimp -implicitDefEqProofs only [go_sem, *, simprocAttr]))) | (simp -dsimp -implicitDefEqProofs only [go_sem, *, simprocAttr]; simp only [zdW] at hK; refine hK _ _ ?_; simp -dsimp -implicitDefEqProofs only [go_sem, *, simprocAttr])
theorem zkY {kk : Nat} {a : Int} {b : Int} {r : Int} (h : zd2 kk a b = some r) : Ev cfg 42 [(.int .u64 a), (.int .u64 b)] (.int .u64 r) := by
 unfold zd2 at h
 have E := evT
 rcases zaX h with ⟨r5_, o4_, h⟩ | ⟨q5, o4_, h⟩
 obtain ⟨_, l3_, E⟩ := E.lp (zhA o4_)
 rotate_left
 obtain ⟨_, l6_, E⟩ := E.lp (zhA o4_)
 rotate_left
 all_goals
  obtain rfl := Option.some.inj h
  refine E.s fun n x => ?_
  first | (have := l3_; simp -dsimp -implicitDefEqProofs only [go_sem, func42, f42, *, simprocAttr]; refine zan (l3_.1 n (by omega) _ _ ?_ ?_ ?_ _ _ ?_); (iterate 3 (simp -dsimp -implicitDefEqProofs only [go_sem, *, simprocAttr])); simp only [zdW]; intro e m i0; simp -dsimp -implicitDefEqProofs only [go_sem, func42, f42, *, simprocAttr]) | (have := l6_; simp -dsimp -implicitDefEqProofs only [go_sem, func42, f42, *, simprocAttr]; refine zan (l6_.1 n (by omega) _ _ ?_ ?_ ?_ _ _ ?_); (iterate 3 (simp -dsimp -implicitDefEqProofs only [go_sem, *, simprocAttr])); simp only [zdW]; intro e m i0; simp -dsimp -implicitDefEqProofs only [go_sem, func42, f42, *, simprocAttr])
def zdX (c8 : Sl Val) (c10 : Int) (K : Ex → St → Option Res) (R : Option Res) : Out (Int) (Int × Int) → Prop
 | .ret r => ∀ (e : Env) (m : Mem), e 2 = (.int .u64 r) → K .ret ⟨e, m⟩ = R
 | .done q => ∀ (e : Env) (m : Mem), e 0 = (dSl zbv c8) → e 3 = (.int .u64 q.1) → e 4 = (.int .i64 c10) → K (.exit 2) ⟨e, m⟩ = R
noncomputable def zmf : Code := zcB f22 [1, 1, 0, 1, 0, 0, 1, 0, 0, 1, 1, 1, 1, 0, 0]
theorem zhB {c8 : Sl Val} {c10 : Int} {kk : Nat} : ∀ {k : Nat} {s9 : Int} {s11 : Int} {out : Out (Int) (Int × Int)}, zbQ c8 c10 kk k s9 s11 = some out → ∃ N, ∀ n, N ≤ n → ∀ k, N ≤ k → ∀ (e : Env) (m : Mem), e 0 = (dSl zbv c8) → e 3 = (.int .u64 s9) → e 4 = (.int .i64 c10) → e 5 = (.int .i64 s11) → ∀ (K : Ex → St → Option Res) (R : Option Res), zdX c8 c10 K R out → zci (zbu cfg (dfn cfg n) n zmf) K k ⟨e, m⟩ = R := by
 intro k
 induction k with
 | zero => intro s9 s11 out h; cases h
 | succ k ih => ?_
 intro s9 s11 out h
 have ih := fun x0 x1 {out} => @ih x0 x1 out
 unfold zbQ at h
 have E := evT
 obtain ⟨y12, h1_, h⟩ := zaa h
 obtain ⟨_, h2_⟩ := za7 h1_
 have h2_ := zbc h2_ zbv
 rcases zag h with ⟨h3_, h⟩ | ⟨h3_, h⟩
 obtain ⟨y13, h4_, h⟩ := zaa h
 obtain ⟨_, h5_⟩ := za7 h4_
 obtain ⟨r14, h6_, h⟩ := zaa h
 have E := E.and (zjM h6_)
 rotate_left
 rotate_left
 all_goals
  first | (obtain rfl := Option.some.inj h; refine E.l fun n k x => ?_) | refine E.c (ih _ _ h) fun n k x I => ?_
  intro e m i0 i1 i2 i3 K R hK
  rw [zaP]
  (conv => lhs; arg 4; whnf)
  first | (simp -dsimp -implicitDefEqProofs only [go_sem, *, simprocAttr]; refine zan (I.1 _ _ ?_ ?_ ?_ ?_ _ _ hK); (iterate 4 (simp -dsimp -implicitDefEqProofs only [go_sem, *, simprocAttr]))) | (simp -dsimp -implicitDefEqProofs only [go_sem, *, simprocAttr]; simp only [zdX] at hK; refine hK _ _ ?_ ?_ ?_; (iterate 3 (simp -dsimp -implicitDefEqProofs only [go_sem, *, simprocAttr])))
def zdh (c1 : Sl Val) (K : Ex → St → Option Res) (R : Option Res) : Out (Int) (Int × Int) → Prop
 | .ret r => ∀ (e : Env) (m : Mem), e 2 = (.int .u64 r) → K .ret ⟨e, m⟩ = R
 | .done q => ∀ (e : Env) (m : Mem), e 3 = (.int .u64 q.1) → K (.exit 0) ⟨e, m⟩ = R
noncomputable def zmg : Code := zcB f22 [1, 1, 0, 1, 0, 0]
theorem zhC {c1 : Sl Val} {kk : Nat} : ∀ {k : Nat} {s2 : Int} {s3 : Int} {out : Out (Int) (Int × Int)}, zct c1 kk k s2 s3 = some out → ∃ N, ∀ n, N ≤ n → ∀ k, N ≤ k → ∀ (e : Env) (m : Mem), e 0 = (dSl zbv c1) → e 3 = (.int .u64 s2) → e 4 = (.int .i64 s3) → ∀ (K : Ex → St → Option Res) (R : Option Res), zdh c1 K R out → zci (zbu cfg (dfn cfg n) n zmg) K k ⟨e, m⟩ = R := by
 intro k
 induction k with
 | zero => intro s2 s3 out h; cases h
 | succ k ih => ?_
 intro s2 s3 out h
 have ih := fun x0 x1 {out} => @ih x0 x1 out
 unfold zct at h
 have E := evT
 rcases zag h with ⟨h7_, h⟩ | ⟨h7_, h⟩
 obtain ⟨y4, h8_, h⟩ := zaa h
 obtain ⟨_, h9_⟩ := za7 h8_
 have h9_ := zbc h9_ zbv
 obtain ⟨r5, h10_, h⟩ := zaa h
 have E := E.and (zjM h10_)
 obtain ⟨r6, h11_, h⟩ := zaa h
 have E := E.and (zkY h11_)
 obtain ⟨r7, h12_, h⟩ := zaa h
 have E := E.and (zkY h12_)
 rcases zaX h with ⟨r15_, o14_, h⟩ | ⟨q15, o14_, h⟩
 obtain ⟨_, l13_, E⟩ := E.lp (zhB o14_)
 rotate_left
 obtain ⟨_, l16_, E⟩ := E.lp (zhB o14_)
 rotate_left
 rotate_left
 all_goals
  first | (obtain rfl := Option.some.inj h; refine E.l fun n k x => ?_) | refine E.c (ih _ _ h) fun n k x I => ?_
  intro e m i0 i1 i2 K R hK
  rw [zaP]
  (conv => lhs; arg 4; whnf)
  first | (have := l13_; simp -dsimp -implicitDefEqProofs only [go_sem, *, simprocAttr]; refine zan (l13_.1 n (by omega) _ _ ?_ ?_ ?_ ?_ _ _ ?_); (iterate 4 (simp -dsimp -implicitDefEqProofs only [go_sem, *, simprocAttr])); simp only [zdX]; intro e m i0; (try simp -dsimp -implicitDefEqProofs only [go_sem, *, simprocAttr]); simp only [zdh] at hK; refine hK _ _ ?_; simp -dsimp -implicitDefEqProofs only [go_sem, *, simprocAttr]) | (have := l16_; simp -dsimp -implicitDefEqProofs only [go_sem, *, simprocAttr]; refine zan (l16_.1 n (by omega) _ _ ?_ ?_ ?_ ?_ _ _ ?_); (iterate 4 (simp -dsimp -implicitDefEqProofs only [go_sem, *, simprocAttr])); simp only [zdX]; intro e m i0 i1 i2; (try simp -dsimp -implicitDefEqProofs only [go_sem, *, simprocAttr]); refine zan (I.1 _ _ ?_ ?_ ?_ _ _ hK); (iterate 3 (simp -dsimp -implicitDefEqProofs only [go_sem, *, simprocAttr]))) | ((try simp -dsimp -implicitDefEqProofs only [go_sem, *, simprocAttr]); simp only [zdh] at hK; refine hK _ _ ?_; simp -dsimp -implicitDefEqProofs only [go_sem, *, simprocAttr])
theorem zq6 {kk : Nat} {a : (Sl Val)} {r : Int} (h : zgm kk a = some r) : Ev cfg 22 [(dSl zbv a)] (.int .u64 r) := by
 unfold zgm at h
 have E := evT
 rcases zaX h with ⟨r19_, o18_, h⟩ | ⟨q16, o18_, h⟩
 obtain ⟨_, l17_, E⟩ := E.lp (zhC o18_)
 rotate_left
 obtain ⟨_, l20_, E⟩ := E.lp (zhC o18_)
 rotate_left
 all_goals
  obtain rfl := Option.some.inj h
  refine E.s fun n x => ?_
  first | (have := l17_; simp -dsimp -implicitDefEqProofs only [go_sem, func22, f22, *, simprocAttr]; refine zan (l17_.1 n (by omega) _ _ ?_ ?_ ?_ _ _ ?_); (iterate 3 (simp -dsimp -implicitDefEqProofs only [go_sem, *, simprocAttr])); simp only [zdh]; intro e m i0; simp -dsimp -implicitDefEqProofs only [go_sem, func22, f22, *, simprocAttr]) | (have := l20_; simp -dsimp -implicitDefEqProofs only [go_sem, func22, f22, *, simprocAttr]; refine zan (l20_.1 n (by omega) _ _ ?_ ?_ ?_ _ _ ?_); (iterate 3 (simp -dsimp -implicitDefEqProofs only [go_sem, *, simprocAttr])); simp only [zdh]; intro e m i0; simp -dsimp -implicitDefEqProofs only [go_sem, func22, f22, *, simprocAttr])
theorem zk1 (a : (Sl Val)) (h : zbd a.l < lim) : Ev cfg 22 [(dSl zbv a)] (.int .u64 (zjq a)) := zq6 (zma (kk := big) a h)
theorem zeB {kk : Nat} {a : Int} {u0 : Int} {r : Int} (h : zce kk a u0 = some r) : ∃ N, ∀ n, N ≤ n → ∀ g0_, dfn cfg n 39 [(.int .u8 a), (.ptr (.arg 0) g0_ 0 0)] [.rows g0_ false true 1 [[(.int .u64 u0)]]] = some ⟨.tup [], [.rows g0_ false true 1 [[(.int .u64 r)]]], []⟩ := by
 unfold zce at h
 have E := evT
 obtain rfl := Option.some.inj h
 refine E.s fun n x g0_ => ?_
 simp -dsimp -implicitDefEqProofs only [go_sem, func39, f39, *, simprocAttr]
def zcw (g0_ : Nat) (g1_ : Nat) (K : Ex → St → Option Res) (R : Option Res) : Out (Int) (Int × Int × Int) → Prop
 | .ret r => ∀ (e : Env) (m : Mem), m (.arg 0) = some (.rows g0_ false false 1 [[(.fn (.func 39) [] [(.ptr (.arg 1) g1_ 0 0)])]]) → m (.arg 1) = some (.rows g1_ false true 1 [[(.int .u64 r)]]) → K .ret ⟨e, m⟩ = R
 | .done q => ∀ (e : Env) (m : Mem), m (.arg 0) = some (.rows g0_ false false 1 [[(.fn (.func 39) [] [(.ptr (.arg 1) g1_ 0 0)])]]) → m (.arg 1) = some (.rows g1_ false true 1 [[(.int .u64 q.2.2)]]) → K (.exit 0) ⟨e, m⟩ = R
noncomputable def zii : Code := zcB f40 [1, 0, 0]
theorem zeP {kk : Nat} : ∀ {k : Nat} {s1 : Int} {s2 : Int} {s3 : Int} {out : Out (Int) (Int × Int × Int)}, zbL kk k s1 s2 s3 = some out → ∃ N, ∀ n, N ≤ n → ∀ k, N ≤ k → ∀ g0_ g1_, ∀ (e : Env) (m : Mem), e 0 = (.int .u64 s1) → e 1 = .ptr (.arg 0) g0_ 0 0 → e 3 = (.int .i64 s2) → m (.arg 0) = some (.rows g0_ false false 1 [[(.fn (.func 39) [] [(.ptr (.arg 1) g1_ 0 0)])]]) → m (.arg 1) = some (.rows g1_ false true 1 [[(.int .u64 s3)]]) → ∀ (K : Ex → St → Option Res) (R : Option Res), zcw g0_ g1_ K R out → zci (zbu cfg (dfn cfg n) n zii) K k ⟨e, m⟩ = R := by
 intro k
 induction k with
 | zero => intro s1 s2 s3 out h; cases h
 | succ k ih => ?_
 intro s1 s2 s3 out h
 have ih := fun x0 x1 x2 {out} => @ih x0 x1 x2 out
 unfold zbL at h
 have E := evT
 rcases zag h with ⟨h1_, h⟩ | ⟨h1_, h⟩
 obtain ⟨r4, h2_, h⟩ := zaa h
 have E := E.and (zeB h2_)
 rotate_left
 rotate_left
 all_goals
  first | (obtain rfl := Option.some.inj h; refine E.l fun n k x => ?_) | refine E.c (ih _ _ _ h) fun n k x I => ?_
  intro g0_ g1_ e m i0 i1 i2 i3 i4 K R hK
  rw [zaP]
  (conv => lhs; arg 4; whnf)
  first | (simp -dsimp -implicitDefEqProofs only [go_sem, *, simprocAttr]; refine zan (I.1 g0_ g1_ _ _ ?_ ?_ ?_ ?_ ?_ _ _ hK); (iterate 5 (simp -dsimp -implicitDefEqProofs only [go_sem, *, simprocAttr]))) | (simp -dsimp -implicitDefEqProofs only [go_sem, *, simprocAttr]; simp only [zcw] at hK; refine hK _ _ ?_ ?_; (iterate 2 (simp -dsimp -implicitDefEqProofs only [go_sem, *, simprocAttr])))
theorem zgF {kk : Nat} {a : Int} {u1 : Int} {r : Int} (h : zcd kk a u1 = some r) : ∃ N, ∀ n, N ≤ n → ∀ g0_ g1_, dfn cfg n 40 [(.int .u64 a), (.ptr (.arg 0) g0_ 0 0)] [.rows g0_ false false 1 [[(.fn (.func 39) [] [(.ptr (.arg 1) g1_ 0 0)])]], .rows g1_ false true 1 [[(.int .u64 u1)]]] = some ⟨.tup [], [.rows g0_ false false 1 [[(.fn (.func 39) [] [(.ptr (.arg 1) g1_ 0 0)])]], .rows g1_ false true 1 [[(.int .u64 r)]]], []⟩ := by
 unfold zcd at h
 have E := evT
 rcases zaX h with ⟨r5_, o4_, h⟩ | ⟨q5, o4_, h⟩
 obtain ⟨_, l3_, E⟩ := E.lp (zeP o4_)
 rotate_left
 obtain ⟨_, l6_, E⟩ := E.lp (zeP o4_)
 rotate_left
 all_goals
  obtain rfl := Option.some.inj h
  refine E.s fun n x g0_ g1_ => ?_
  first | (have := l3_; simp -dsimp -implicitDefEqProofs only [go_sem, func40, f40, *, simprocAttr]; refine zan (l3_.1 n (by omega) g0_ g1_ _ _ ?_ ?_ ?_ ?_ ?_ _ _ ?_); (iterate 5 (simp -dsimp -implicitDefEqProofs only [go_sem, *, simprocAttr])); simp only [zcw]; intro e m i0 i1; simp -dsimp -implicitDefEqProofs only [go_sem, func40, f40, *, simprocAttr]) | (have := l6_; simp -dsimp -implicitDefEqProofs only [go_sem, func40, f40, *, simprocAttr]; refine zan (l6_.1 n (by omega) g0_ g1_ _ _ ?_ ?_ ?_ ?_ ?_ _ _ ?_); (iterate 5 (simp -dsimp -implicitDefEqProofs only [go_sem, *, simprocAttr])); simp only [zcw]; intro e m i0 i1; simp -dsimp -implicitDefEqProofs only [go_sem, func40, f40, *, simprocAttr])
def zdd (c9 : Sl Val) (c10 : Int) (c11 : Int) (c12 : Int) (c15 : Val) (K : Ex → St → Option Res) (R : Option Res) : Out (Int) (Int × Int) → Prop
 | .ret r => ∀ (e : Env) (m : Mem), e 2 = (.int .u64 r) → K .ret ⟨e, m⟩ = R
 | .done q => ∀ (e : Env) (m : Mem), zeQ (e 3) m 3 1 [(.int .u64 q.2)] → znr (e 4) m 4 1 [(.fn (.func 39) [] [(e 3)])] → e 5 = (.fn (.func 40) [] [(e 4)]) → e 11 = (dSl zbv c9) → e 12 = (.int .i64 c10) → e 13 = (.int .i64 c11) → K (.exit 2) ⟨e, m⟩ = R
noncomputable def zjU : Code := zcB f21 [1, 1, 1, 1, 0, 1, 0, 0, 1, 1, 0, 0, 1, 1, 1, 1, 1, 0, 0]
theorem zfT {c9 : Sl Val} {c10 : Int} {c11 : Int} {c12 : Int} {c15 : Val} {kk : Nat} : ∀ {k : Nat} {s13 : Int} {s14 : Int} {out : Out (Int) (Int × Int)}, zcb c9 c10 c11 c12 c15 kk k s13 s14 = some out → ∃ N, ∀ n, N ≤ n → ∀ k, N ≤ k → ∀ (e : Env) (m : Mem), zeQ (e 3) m 3 1 [(.int .u64 s14)] → znr (e 4) m 4 1 [(.fn (.func 39) [] [(e 3)])] → e 5 = (.fn (.func 40) [] [(e 4)]) → zeQ (e 7) m 7 3 (zbv c15) → e 11 = (dSl zbv c9) → e 12 = (.int .i64 c10) → e 13 = (.int .i64 c11) → e 35 = (.int .i64 c12) → e 36 = (.int .i64 s13) → ∀ (K : Ex → St → Option Res) (R : Option Res), zdd c9 c10 c11 c12 c15 K R out → zci (zbu cfg (dfn cfg n) n zjU) K k ⟨e, m⟩ = R := by
 intro k
 induction k with
 | zero => intro s13 s14 out h; cases h
 | succ k ih => ?_
 intro s13 s14 out h
 have ih := fun x0 x1 {out} => @ih x0 x1 out
 unfold zcb at h
 have E := evT
 rcases zag h with ⟨h1_, h⟩ | ⟨h1_, h⟩
 obtain ⟨y16, h2_, h⟩ := zaa h
 obtain ⟨_, h3_⟩ := za7 h2_
 obtain ⟨r17, h4_, h⟩ := zaa h
 have E := E.and (zeB h4_)
 rotate_left
 rotate_left
 all_goals
  first | (obtain rfl := Option.some.inj h; refine E.l fun n k x => ?_) | refine E.c (ih _ _ h) fun n k x I => ?_
  intro e m i0 i1 i2 i3 i4 i5 i6 i7 i8 K R hK
  obtain ⟨_, _, _⟩ := i0
  obtain ⟨_, _, _⟩ := i1
  obtain ⟨_, _, _⟩ := i3
  rw [zaP]
  (conv => lhs; arg 4; whnf)
  first | (simp -dsimp -implicitDefEqProofs only [go_sem, *, simprocAttr]; refine zan (I.1 _ _ ?_ ?_ ?_ ?_ ?_ ?_ ?_ ?_ ?_ _ _ hK); (iterate 9 (simp -dsimp -implicitDefEqProofs only [go_sem, *, simprocAttr]))) | (simp -dsimp -implicitDefEqProofs only [go_sem, *, simprocAttr]; simp only [zdd] at hK; refine hK _ _ ?_ ?_ ?_ ?_ ?_ ?_; (iterate 6 (simp -dsimp -implicitDefEqProofs only [go_sem, *, simprocAttr])))
def zcr (c1 : Sl Val) (c2 : Int) (K : Ex → St → Option Res) (R : Option Res) : Out (Int) (Int × Int) → Prop
 | .ret r => ∀ (e : Env) (m : Mem), e 2 = (.int .u64 r) → K .ret ⟨e, m⟩ = R
 | .done q => ∀ (e : Env) (m : Mem), zeQ (e 3) m 3 1 [(.int .u64 q.2)] → K (.exit 0) ⟨e, m⟩ = R
noncomputable def zjV : Code := zcB f21 [1, 1, 1, 1, 0, 1, 0, 0]
theorem zfU {c1 : Sl Val} {c2 : Int} {kk : Nat} : ∀ {k : Nat} {s3 : Int} {s4 : Int} {out : Out (Int) (Int × Int)}, zcc c1 c2 kk k s3 s4 = some out → ∃ N, ∀ n, N ≤ n → ∀ k, N ≤ k → ∀ (e : Env) (m : Mem), zeQ (e 3) m 3 1 [(.int .u64 s4)] → znr (e 4) m 4 1 [(.fn (.func 39) [] [(e 3)])] → e 5 = (.fn (.func 40) [] [(e 4)]) → e 11 = (dSl zbv c1) → e 12 = (.int .i64 c2) → e 13 = (.int .i64 s3) → ∀ (K : Ex → St → Option Res) (R : Option Res), zcr c1 c2 K R out → zci (zbu cfg (dfn cfg n) n zjV) K k ⟨e, m⟩ = R := by
 intro k
 induction k with
 | zero => intro s3 s4 out h; cases h
 | succ k ih => ?_
 intro s3 s4 out h
 have ih := fun x0 x1 {out} => @ih x0 x1 out
 unfold zcc at h
 have E := evT
 rcases zag h with ⟨h5_, h⟩ | ⟨h5_, h⟩
 obtain ⟨y5, h6_, h⟩ := zaa h
 obtain ⟨_, h7_⟩ := za7 h6_
 have h7_ := zbc h7_ zbv
 obtain ⟨r6, h8_, h⟩ := zaa h
 have E := E.and (zeB h8_)
 obtain ⟨r7, h9_, h⟩ := zaa h
 have E := E.and (zgF h9_)
 obtain ⟨r8, h10_, h⟩ := zaa h
 have E := E.and (zgF h10_)
 rcases zaX h with ⟨r13_, o12_, h⟩ | ⟨q18, o12_, h⟩
 obtain ⟨_, l11_, E⟩ := E.lp (zfT o12_)
 rotate_left
 obtain ⟨_, l14_, E⟩ := E.lp (zfT o12_)
 rotate_left
 rotate_left
 all_goals
  first | (obtain rfl := Option.some.inj h; refine E.l fun n k x => ?_) | refine E.c (ih _ _ h) fun n k x I => ?_
  intro e m i0 i1 i2 i3 i4 i5 K R hK
  obtain ⟨_, _, _⟩ := i0
  obtain ⟨_, _, _⟩ := i1
  rw [zaP]
  (conv => lhs; arg 4; whnf)
  first | (have := l11_; simp -dsimp -implicitDefEqProofs only [go_sem, *, simprocAttr]; refine zan (l11_.1 n (by omega) _ _ ?_ ?_ ?_ ?_ ?_ ?_ ?_ ?_ ?_ _ _ ?_); (iterate 9 (simp -dsimp -implicitDefEqProofs only [go_sem, *, simprocAttr])); simp only [zdd]; intro e m i0; (try simp -dsimp -implicitDefEqProofs only [go_sem, *, simprocAttr]); simp only [zcr] at hK; refine hK _ _ ?_; simp -dsimp -implicitDefEqProofs only [go_sem, *, simprocAttr]) | (have := l14_; simp -dsimp -implicitDefEqProofs only [go_sem, *, simprocAttr]; refine zan (l14_.1 n (by omega) _ _ ?_ ?_ ?_ ?_ ?_ ?_ ?_ ?_ ?_ _ _ ?_); (iterate 9 (simp -dsimp -implicitDefEqProofs only [go_sem, *, simprocAttr])); simp only [zdd]; intro e m i0 i1 i2 i3 i4 i5; obtain ⟨_, _, _⟩ := i0; obtain ⟨_, _, _⟩ := i1; (try simp -dsimp -implicitDefEqProofs only [go_sem, *, simprocAttr]); refine zan (I.1 _ _ ?_ ?_ ?_ ?_ ?_ ?_ _ _ hK); (iterate 6 (simp -dsimp -implicitDefEqProofs only [go_sem, *, simprocAttr]))) | ((try simp -dsimp -implicitDefEqProofs only [go_sem, *, simprocAttr]); simp only [zcr] at hK; refine hK _ _ ?_; simp -dsimp -implicitDefEqProofs only [go_sem, *, simprocAttr])
theorem znn {kk : Nat} {a : (Sl Val)} {r : Int} (h : zer kk a = some r) : Ev cfg 21 [(dSl zbv a)] (.int .u64 r) := by
 unfold zer at h
 have E := evT
 rcases zaX h with ⟨r17_, o16_, h⟩ | ⟨q19, o16_, h⟩
 obtain ⟨_, l15_, E⟩ := E.lp (zfU o16_)
 rotate_left
 obtain ⟨_, l18_, E⟩ := E.lp (zfU o16_)
 rotate_left
 all_goals
  obtain rfl := Option.some.inj h
  refine E.s fun n x => ?_
  first | (have := l15_; simp -dsimp -implicitDefEqProofs only [go_sem, func21, f21, *, simprocAttr]; refine zan (l15_.1 n (by omega) _ _ ?_ ?_ ?_ ?_ ?_ ?_ _ _ ?_); (iterate 6 (simp -dsimp -implicitDefEqProofs only [go_sem, *, simprocAttr])); simp only [zcr]; intro e m i0; simp -dsimp -implicitDefEqProofs only [go_sem, func21, f21, *, simprocAttr]) | (have := l18_; simp -dsimp -implicitDefEqProofs only [go_sem, func21, f21, *, simprocAttr]; refine zan (l18_.1 n (by omega) _ _ ?_ ?_ ?_ ?_ ?_ ?_ _ _ ?_); (iterate 6 (simp -dsimp -implicitDefEqProofs only [go_sem, *, simprocAttr])); simp only [zcr]; intro e m i0; obtain ⟨_, _, _⟩ := i0; simp -dsimp -implicitDefEqProofs only [go_sem, func21, f21, *, simprocAttr])
theorem ziy (a : (Sl Val)) (h : zbd a.l < lim) : Ev cfg 21 [(dSl zbv a)] (.int .u64 (zjq a)) := znn (zjQ (kk := big) a h)
def zbF (c2 : Sl Int) (c3 : Int) (c5 : zaK) (K : Ex → St → Option Res) (R : Option Res → Prop) : Out ((Sl Val) × Bool) (List Val × Int) → Prop
 | .ret r => ∀ (e : Env) (m : Mem), zs0 (e 4) m [31] 3 zbv r.1 → e 5 = (.bool r.2) → R (K .ret ⟨e, m⟩)
 | .done q => ∀ (e : Env) (m : Mem), zq8 (e 6) m [31] 3 zbv q.1 → R (K (.exit 0) ⟨e, m⟩)
noncomputable def zg1 : Code := zcB f20 [1, 1, 0, 1, 0, 0]
theorem zeh {c2 : Sl Int} {c3 : Int} {c5 : zaK} {kk : Nat} : ∀ {k : Nat} {s1 : List Val} {s4 : Int} {out : Out ((Sl Val) × Bool) (List Val × Int)}, zba c2 c3 c5 kk k s1 s4 = some out → ∃ N, ∀ n, N ≤ n → ∀ k, N ≤ k → ∀ (e : Env) (m : Mem), zeQ (e 2) m 2 2 (za4 c5) → zq8 (e 6) m [31] 3 zbv s1 → e 9 = (dSl (cI .i64) c2) → e 10 = (.int .i64 c3) → e 11 = (.int .i64 s4) → ∀ (K : Ex → St → Option Res) (R : Option Res → Prop), zbF c2 c3 c5 K R out → R (zci (zbu cfg (dfn cfg n) n zg1) K k ⟨e, m⟩) := by
 intro k
 induction k with
 | zero => intro s1 s4 out h; cases h
 | succ k ih => ?_
 intro s1 s4 out h
 have ih := fun x0 x1 {out} => @ih x0 x1 out
 unfold zba at h
 have E := evT
 rcases zag h with ⟨h1_, h⟩ | ⟨h1_, h⟩
 obtain ⟨y6, h2_, h⟩ := zaa h
 obtain ⟨_, h3_⟩ := za7 h2_
 have h3_ := zbc h3_ (cI .i64)
 rcases zag h with ⟨h4_, h⟩ | ⟨h4_, h⟩
 rcases zdb h4_ with b5_ | ⟨b5_, b6_⟩
 rotate_left
 rotate_left
 obtain ⟨b7_, b8_⟩ := zbE h4_
 obtain ⟨y7, h9_, h⟩ := zaa h
 obtain ⟨_, h10_⟩ := za7 h9_
 have h10_ := zbc h10_ zbv
 obtain ⟨_, h11_, h⟩ := zaa h
 have h11_ := zay h11_
 try simp -dsimp -implicitDefEqProofs only [go_sem, simprocAttr] at h11_
 rotate_left
 rotate_left
 all_goals
  first | (obtain rfl := Option.some.inj h; refine E.l fun n k x => ?_) | refine E.c (ih _ _ h) fun n k x I => ?_
  intro e m i0 i1 i2 i3 i4 K R hK
  obtain ⟨_, _, _⟩ := i0
  rcases zuQ i1 with ⟨_, _⟩ | ⟨_, _, _, _⟩ <;> (rw [zaP]; (conv => arg 1; arg 4; whnf); (first | (simp -dsimp -implicitDefEqProofs only [go_sem, *, simprocAttr]; simp only [zbF] at hK; refine hK _ _ ?_ ?_; (iterate 2 (simp -dsimp -implicitDefEqProofs only [go_sem, *, simprocAttr]))) | (simp -dsimp -implicitDefEqProofs only [go_sem, *, simprocAttr]; refine zd1 (I.1 _ _ ?_ ?_ ?_ ?_ ?_ _ _ hK); (iterate 5 (simp -dsimp -implicitDefEqProofs only [go_sem, *, simprocAttr]))) | (simp -dsimp -implicitDefEqProofs only [go_sem, *, simprocAttr]; simp only [zbF] at hK; refine hK _ _ ?_; simp -dsimp -implicitDefEqProofs only [go_sem, *, simprocAttr])))
def zhJ (r : (Sl Val) × Bool) (X : Option Res) : Prop := ∃ γ_, X = some ⟨(.tup [(zlz r.1 γ_), (.bool r.2)]), [], zfg γ_ 3 zbv r.1⟩
theorem zia {kk : Nat} {a : zaK} {b : (Sl Int)} {r : (Sl Val) × Bool} (h : zb9 kk a b = some r) : ∃ N, ∀ n, N ≤ n → zhJ r (dfn cfg n 20 [(.agg (za4 a)), (dSl (cI .i64) b)] []) := by
 unfold zb9 at h
 have E := evT
 rcases zaX h with ⟨r14_, o13_, h⟩ | ⟨q9, o13_, h⟩
 obtain ⟨_, l12_, E⟩ := E.lp (zeh o13_)
 rotate_left
 obtain ⟨_, l15_, E⟩ := E.lp (zeh o13_)
 rotate_left
 all_goals
  obtain rfl := Option.some.inj h
  refine E.s fun n x => ?_
  first | (have := l12_; simp -dsimp -implicitDefEqProofs only [go_sem, func20, f20, *, simprocAttr]; refine zd1 (l12_.1 n (by omega) _ _ ?_ ?_ ?_ ?_ ?_ _ _ ?_); (iterate 5 (simp -dsimp -implicitDefEqProofs only [go_sem, *, simprocAttr])); simp only [zbF]; intro e m i0 i1; rcases zuP i0 with ⟨_, _⟩ | ⟨lr0, _, _, _, _⟩ <;> (simp -dsimp -implicitDefEqProofs only [go_sem, func20, f20, *, simprocAttr]; (first | (refine ⟨0, ?_⟩; (try conv => lhs; simp -dsimp -implicitDefEqProofs only [go_sem, func20, f20, zcG, *, simprocAttr]); (conv => rhs; simp -dsimp -implicitDefEqProofs only [go_sem, func20, f20, zcG, zlz, zfg, *, simprocAttr]); (try rfl); done) | (apply Exists.intro; (try conv => lhs; simp -dsimp -implicitDefEqProofs only [go_sem, func20, f20, zcG, *, simprocAttr]); (conv => rhs; simp -dsimp -implicitDefEqProofs only [go_sem, func20, f20, zcG, zlz, zfg, *, simprocAttr]); (try rfl); done)))) | (have := l15_; simp -dsimp -implicitDefEqProofs only [go_sem, func20, f20, *, simprocAttr]; refine zd1 (l15_.1 n (by omega) _ _ ?_ ?_ ?_ ?_ ?_ _ _ ?_); (iterate 5 (simp -dsimp -implicitDefEqProofs only [go_sem, *, simprocAttr])); simp only [zbF]; intro e m i0; rcases zuQ i0 with ⟨_, _⟩ | ⟨_, _, _, _⟩ <;> (simp -dsimp -implicitDefEqProofs only [go_sem, func20, f20, *, simprocAttr]; (first | (refine ⟨0, ?_⟩; (try conv => lhs; simp -dsimp -implicitDefEqProofs only [go_sem, func20, f20, zcG, *, simprocAttr]); (conv => rhs; simp -dsimp -implicitDefEqProofs only [go_sem, func20, f20, zcG, zlz, zfg, *, simprocAttr]); (try rfl); done) | (apply Exists.intro; (try conv => lhs; simp -dsimp -implicitDefEqProofs only [go_sem, func20, f20, zcG, *, simprocAttr]); (conv => rhs; simp -dsimp -implicitDefEqProofs only [go_sem, func20, f20, zcG, zlz, zfg, *, simprocAttr]); (try rfl); done))))
theorem ziI {kk : Nat} {a : zaK} {b : (Sl Int)} {r : (Sl Val) × Bool} (h : zb9 kk a b = some r) : ∃ N, ∀ n, N ≤ n → ∃ γ_, dfn cfg n 20 [(.agg (za4 a)), (dSl (cI .i64) b)] [] = some ⟨(.tup [(zlz r.1 γ_), (.bool r.2)]), [], zfg γ_ 3 zbv r.1⟩ := zia h
theorem ziM (a : zaK) (b : (Sl Int)) (h : b.l.length < lim) : ∃ N, ∀ n, N ≤ n → ∃ γ_, dfn cfg n 20 [(.agg (za4 a)), (dSl (cI .i64) b)] [] = some ⟨(.tup [(zlz ((zoo a b).1) γ_), (.bool ((zoo a b).2))]), [], zfg γ_ 3 zbv ((zoo a b).1)⟩ := ziI (zgZ (kk := big) a b h)
def zdB (c1 : Sl Int) (c4 : zaK) (K : Ex → St → Option Res) (R : Option Res → Prop) : Out ((Sl Val) × Bool) (List Val × Int) → Prop
 | .ret r => ∀ (e : Env) (m : Mem), zs0 (e 4) m [8] 3 zbv r.1 → e 5 = (.bool r.2) → R (K .ret ⟨e, m⟩)
 | .done q => ∀ (e : Env) (m : Mem), zv0 (e 6) m 8 3 zbv q.1 → R (K (.exit 0) ⟨e, m⟩)
noncomputable def zny : Code := zcB f8 [1, 1, 0, 1, 0, 0]
theorem ziv {c1 : Sl Int} {c4 : zaK} {kk : Nat} : ∀ {k : Nat} {s2 : List Val} {s3 : Int} {out : Out ((Sl Val) × Bool) (List Val × Int)}, zcO c1 c4 kk k s2 s3 = some out → ∃ N, ∀ n, N ≤ n → ∀ k, N ≤ k → ∀ (e : Env) (m : Mem), e 1 = (dSl (cI .i64) c1) → zeQ (e 2) m 2 2 (za4 c4) → zv0 (e 6) m 8 3 zbv s2 → e 7 = (.int .i64 s3) → ∀ (K : Ex → St → Option Res) (R : Option Res → Prop), zdB c1 c4 K R out → R (zci (zbu cfg (dfn cfg n) n zny) K k ⟨e, m⟩) := by
 intro k
 induction k with
 | zero => intro s2 s3 out h; cases h
 | succ k ih => ?_
 intro s2 s3 out h
 have ih := fun x0 x1 {out} => @ih x0 x1 out
 unfold zcO at h
 have E := evT
 rcases zag h with ⟨h1_, h⟩ | ⟨h1_, h⟩
 obtain ⟨y5, h2_, h⟩ := zaa h
 obtain ⟨_, h3_⟩ := za7 h2_
 have h3_ := zbc h3_ (cI .i64)
 rcases zag h with ⟨h4_, h⟩ | ⟨h4_, h⟩
 rcases zdb h4_ with b5_ | ⟨b5_, b6_⟩
 rotate_left
 rotate_left
 obtain ⟨b7_, b8_⟩ := zbE h4_
 obtain ⟨y6, h9_, h⟩ := zaa h
 obtain ⟨_, h10_⟩ := za7 h9_
 have h10_ := zbc h10_ zbv
 obtain ⟨_, h11_, h⟩ := zaa h
 have h11_ := zay h11_
 try simp -dsimp -implicitDefEqProofs only [go_sem, simprocAttr] at h11_
 rotate_left
 rotate_left
 all_goals
  first | (obtain rfl := Option.some.inj h; refine E.l fun n k x => ?_) | refine E.c (ih _ _ h) fun n k x I => ?_
  intro e m i0 i1 i2 i3 K R hK
  obtain ⟨_, _, _⟩ := i1
  obtain ⟨_, _, _⟩ := i2
  rw [zaP]
  (conv => arg 1; arg 4; whnf)
  first | (simp -dsimp -implicitDefEqProofs only [go_sem, *, simprocAttr]; simp only [zdB] at hK; refine hK _ _ ?_ ?_; (iterate 2 (simp -dsimp -implicitDefEqProofs only [go_sem, *, simprocAttr]))) | (simp -dsimp -implicitDefEqProofs only [go_sem, *, simprocAttr]; refine zd1 (I.1 _ _ ?_ ?_ ?_ ?_ _ _ hK); (iterate 4 (simp -dsimp -implicitDefEqProofs only [go_sem, *, simprocAttr]))) | (simp -dsimp -implicitDefEqProofs only [go_sem, *, simprocAttr]; simp only [zdB] at hK; refine hK _ _ ?_; simp -dsimp -implicitDefEqProofs only [go_sem, *, simprocAttr])
def zoY (r : (Sl Val) × Bool) (X : Option Res) : Prop := ∃ γ_, X = some ⟨(.tup [(zlz r.1 γ_), (.bool r.2)]), [], zfg γ_ 3 zbv r.1⟩
theorem zq7 {kk : Nat} {a : zaK} {b : (Sl Int)} {r : (Sl Val) × Bool} (h : zf0 kk a b = some r) : ∃ N, ∀ n, N ≤ n → zoY r (dfn cfg n 8 [(.agg (za4 a)), (dSl (cI .i64) b)] []) := by
 unfold zf0 at h
 have E := evT
 rcases zaX h with ⟨r14_, o13_, h⟩ | ⟨q8, o13_, h⟩
 obtain ⟨_, l12_, E⟩ := E.lp (ziv o13_)
 rotate_left
 obtain ⟨_, l15_, E⟩ := E.lp (ziv o13_)
 rotate_left
 all_goals
  obtain rfl := Option.some.inj h
  refine E.s fun n x => ?_
  first | (have := l12_; simp -dsimp -implicitDefEqProofs only [go_sem, func8, f8, *, simprocAttr]; refine zd1 (l12_.1 n (by omega) _ _ ?_ ?_ ?_ ?_ _ _ ?_); (iterate 4 (simp -dsimp -implicitDefEqProofs only [go_sem, *, simprocAttr])); simp only [zdB]; intro e m i0 i1; rcases zuP i0 with ⟨_, _⟩ | ⟨lr0, _, _, _, _⟩ <;> (simp -dsimp -implicitDefEqProofs only [go_sem, func8, f8, *, simprocAttr]; (first | (refine ⟨0, ?_⟩; (try conv => lhs; simp -dsimp -implicitDefEqProofs only [go_sem, func8, f8, zcG, *, simprocAttr]); (conv => rhs; simp -dsimp -implicitDefEqProofs only [go_sem, func8, f8, zcG, zlz, zfg, *, simprocAttr]); (try rfl); done) | (apply Exists.intro; (try conv => lhs; simp -dsimp -implicitDefEqProofs only [go_sem, func8, f8, zcG, *, simprocAttr]); (conv => rhs; simp -dsimp -implicitDefEqProofs only [go_sem, func8, f8, zcG, zlz, zfg, *, simprocAttr]); (try rfl); done)))) | (have := l15_; simp -dsimp -implicitDefEqProofs only [go_sem, func8, f8, *, simprocAttr]; refine zd1 (l15_.1 n (by omega) _ _ ?_ ?_ ?_ ?_ _ _ ?_); (iterate 4 (simp -dsimp -implicitDefEqProofs only [go_sem, *, simprocAttr])); simp only [zdB]; intro e m i0; obtain ⟨_, _, _⟩ := i0; simp -dsimp -implicitDefEqProofs only [go_sem, func8, f8, *, simprocAttr]; (first | (refine ⟨0, ?_⟩; (try conv => lhs; simp -dsimp -implicitDefEqProofs only [go_sem, func8, f8, zcG, *, simprocAttr]); (conv => rhs; simp -dsimp -implicitDefEqProofs only [go_sem, func8, f8, zcG, zlz, zfg, *, simprocAttr]); (try rfl); done) | (apply Exists.intro; (try conv => lhs; simp -dsimp -implicitDefEqProofs only [go_sem, func8, f8, zcG, *, simprocAttr]); (conv => rhs; simp -dsimp -implicitDefEqProofs only [go_sem, func8, f8, zcG, zlz, zfg, *, simprocAttr]); (try rfl); done)))
theorem zsV {kk : Nat} {a : zaK} {b : (Sl Int)} {r : (Sl Val) × Bool} (h : zf0 kk a b = some r) : ∃ N, ∀ n, N ≤ n → ∃ γ_, dfn cfg n 8 [(.agg (za4 a)), (dSl (cI .i64) b)] [] = some ⟨(.tup [(zlz r.1 γ_), (.bool r.2)]), [], zfg γ_ 3 zbv r.1⟩ := zq7 h
theorem zhK (a : zaK) (b : (Sl Int)) (h : b.l.length < lim) : ∃ N, ∀ n, N ≤ n → ∃ γ_, dfn cfg n 8 [(.agg (za4 a)), (dSl (cI .i64) b)] [] = some ⟨(.tup [(zlz ((zdF a b).1) γ_), (.bool ((zdF a b).2))]), [], zfg γ_ 3 zbv ((zdF a b).1)⟩ := zsV (zns (kk := big) a b h)
theorem zh9 {kk : Nat} {a : zaK} {b : (Sl Int)} {c : Int} {d : Int} {r : Int} (h : zcz kk a b c d = some r) : Ev cfg 6 [(.agg (za4 a)), (dSl (cI .i64) b), (.int .i64 c), (.int .i64 d)] (.int .i64 r) := by
 unfold zcz at h
 have E := evT
 obtain ⟨_, h1_, h⟩ := zaa h
 obtain ⟨_, l2_, E⟩ := E.lj (ziM a b (zay h1_))
 rcases zag h with ⟨h3_, h⟩ | ⟨h3_, h⟩
 rcases zag h with ⟨h4_, h⟩ | ⟨h4_, h⟩
 rcases zdb h4_ with b5_ | ⟨b5_, b6_⟩
 rcases zdb b5_ with b7_ | ⟨b7_, b8_⟩
 have b9_ := zaY b7_
 rotate_left
 have b10_ := zaA b7_
 rotate_left
 obtain ⟨b11_, b12_⟩ := zbE b5_
 have b13_ := zaA b11_
 rotate_left
 obtain ⟨b14_, b15_⟩ := zbE h4_
 obtain ⟨b16_, b17_⟩ := zbE b14_
 have b18_ := zaA b16_
 obtain ⟨_, h19_, h⟩ := zaa h
 have E := E.and (ziy (Sl.of [(Val.zero.setInt d)]) (zay h19_))
 obtain ⟨_, h20_, h⟩ := zaa h
 have h20_ := zay h20_
 try simp -dsimp -implicitDefEqProofs only [go_sem, simprocAttr] at h20_
 rotate_left
 rcases zag h with ⟨h21_, h⟩ | ⟨h21_, h⟩
 rcases zdb h21_ with b22_ | ⟨b22_, b23_⟩
 rcases zdb b22_ with b24_ | ⟨b24_, b25_⟩
 have b26_ := zaY b24_
 rotate_left
 have b27_ := zaA b24_
 rotate_left
 obtain ⟨b28_, b29_⟩ := zbE b22_
 have b30_ := zaA b28_
 rotate_left
 obtain ⟨b31_, b32_⟩ := zbE h21_
 obtain ⟨b33_, b34_⟩ := zbE b31_
 have b35_ := zaA b33_
 obtain ⟨_, h36_, h⟩ := zaa h
 have h36_ := zay h36_
 try simp -dsimp -implicitDefEqProofs only [go_sem, simprocAttr] at h36_
 obtain ⟨_, h37_, h⟩ := zaa h
 have E := E.and (ziy (Sl.of (((zoo a b).1).l ++ [(Val.zero.setInt d)])) (zay h37_))
 obtain ⟨_, h38_, h⟩ := zaa h
 have h38_ := zay h38_
 try simp -dsimp -implicitDefEqProofs only [go_sem, simprocAttr] at h38_
 rotate_left
 all_goals
  obtain rfl := Option.some.inj h
  refine E.s fun n x => ?_
  (try simp -dsimp -implicitDefEqProofs only [go_sem, simprocAttr] at x)
  obtain ⟨_, el2_⟩ := l2_.1 n (by omega)
  simp only [zlz, zfg, if_true, if_false, Bool.false_eq_true, *] at el2_
  simp -dsimp -implicitDefEqProofs only [go_sem, func6, f6, *, simprocAttr]
theorem zbZ (a : zaK) (b : (Sl Int)) (c : Int) (d : Int) (h : b.l.length < lim ∧ zbd (b.l.map (zga a)) + 1 < lim ∧ zgC c) : Ev cfg 6 [(.agg (za4 a)), (dSl (cI .i64) b), (.int .i64 c), (.int .i64 d)] (.int .i64 (zbj a b c d)) := zh9 (zgw (kk := big) a b c d h)
theorem zno {kk : Nat} {a : zaK} {b : (Sl Int)} {c : Int} {d : Int} {r : Int} (h : zes kk a b c d = some r) : Ev cfg 7 [(.agg (za4 a)), (dSl (cI .i64) b), (.int .i64 c), (.int .i64 d)] (.int .i64 r) := by
 unfold zes at h
 have E := evT
 obtain ⟨_, h1_, h⟩ := zaa h
 obtain ⟨_, l2_, E⟩ := E.lj (zhK a b (zay h1_))
 rcases zag h with ⟨h3_, h⟩ | ⟨h3_, h⟩
 rcases zag h with ⟨h4_, h⟩ | ⟨h4_, h⟩
 rcases zdb h4_ with b5_ | ⟨b5_, b6_⟩
 rcases zdb b5_ with b7_ | ⟨b7_, b8_⟩
 have b9_ := zaY b7_
 rotate_left
 have b10_ := zaA b7_
 rotate_left
 obtain ⟨b11_, b12_⟩ := zbE b5_
 have b13_ := zaA b11_
 rotate_left
 obtain ⟨b14_, b15_⟩ := zbE h4_
 obtain ⟨b16_, b17_⟩ := zbE b14_
 have b18_ := zaA b16_
 obtain ⟨_, h19_, h⟩ := zaa h
 have E := E.and (zk1 (Sl.of [(Val.zero.setInt d)]) (zay h19_))
 obtain ⟨_, h20_, h⟩ := zaa h
 have h20_ := zay h20_
 try simp -dsimp -implicitDefEqProofs only [go_sem, simprocAttr] at h20_
 rotate_left
 rcases zag h with ⟨h21_, h⟩ | ⟨h21_, h⟩
 rcases zdb h21_ with b22_ | ⟨b22_, b23_⟩
 rcases zdb b22_ with b24_ | ⟨b24_, b25_⟩
 have b26_ := zaY b24_
 rotate_left
 have b27_ := zaA b24_
 rotate_left
 obtain ⟨b28_, b29_⟩ := zbE b22_
 have b30_ := zaA b28_
 rotate_left
 obtain ⟨b31_, b32_⟩ := zbE h21_
 obtain ⟨b33_, b34_⟩ := zbE b31_
 have b35_ := zaA b33_
 obtain ⟨_, h36_, h⟩ := zaa h
 have h36_ := zay h36_
 try simp -dsimp -implicitDefEqProofs only [go_sem, simprocAttr] at h36_
 obtain ⟨_, h37_, h⟩ := zaa h
 have E := E.and (zk1 (Sl.of (((zdF a b).1).l ++ [(Val.zero.setInt d)])) (zay h37_))
 obtain ⟨_, h38_, h⟩ := zaa h
 have h38_ := zay h38_
 try simp -dsimp -implicitDefEqProofs only [go_sem, simprocAttr] at h38_
 rotate_left
 all_goals
  obtain rfl := Option.some.inj h
  refine E.s fun n x => ?_
  (try simp -dsimp -implicitDefEqProofs only [go_sem, simprocAttr] at x)
  obtain ⟨_, el2_⟩ := l2_.1 n (by omega)
  simp only [zlz, zfg, if_true, if_false, Bool.false_eq_true, *] at el2_
  simp -dsimp -implicitDefEqProofs only [go_sem, func7, f7, *, simprocAttr]
theorem znw (a : zaK) (b : (Sl Int)) (c : Int) (d : Int) (h : b.l.length < lim ∧ zbd (b.l.map (zga a)) + 1 < lim ∧ zgC c) : Ev cfg 7 [(.agg (za4 a)), (dSl (cI .i64) b), (.int .i64 c), (.int .i64 d)] (.int .i64 (zbj a b c d)) := zno (zjR (kk := big) a b c d h)
def zcH (c1 : Sl Val) (c2 : Int) (K : Ex → St → Option Res) (R : Option Res) : Out (Bool) (Int) → Prop
 | .ret r => ∀ (e : Env) (m : Mem), e 4 = (.bool r) → K .ret ⟨e, m⟩ = R
 | .done q => ∀ (e : Env) (m : Mem), e 0 = (dSl zbv c1) → e 1 = (.int .i64 c2) → K (.exit 0) ⟨e, m⟩ = R
noncomputable def zkw : Code := zcB f37 [1, 0, 1, 0, 0]
theorem zgG {c1 : Sl Val} {c2 : Int} {kk : Nat} : ∀ {k : Nat} {s3 : Int} {out : Out (Bool) (Int)}, zb3 c1 c2 kk k s3 = some out → ∃ N, ∀ n, N ≤ n → ∀ k, N ≤ k → ∀ (e : Env) (m : Mem), e 0 = (dSl zbv c1) → e 1 = (.int .i64 c2) → e 5 = (.int .i64 s3) → ∀ (K : Ex → St → Option Res) (R : Option Res), zcH c1 c2 K R out → zci (zbu cfg (dfn cfg n) n zkw) K k ⟨e, m⟩ = R := by
 intro k
 induction k with
 | zero => intro s3 out h; cases h
 | succ k ih => ?_
 intro s3 out h
 have ih := fun x0 {out} => @ih x0 out
 unfold zb3 at h
 have E := evT
 rcases zag h with ⟨h1_, h⟩ | ⟨h1_, h⟩
 obtain ⟨y4, h2_, h⟩ := zaa h
 obtain ⟨_, h3_⟩ := za7 h2_
 have h3_ := zbc h3_ zbv
 rcases zag h with ⟨h4_, h⟩ | ⟨h4_, h⟩
 rotate_left
 rotate_left
 rotate_left
 all_goals
  first | (obtain rfl := Option.some.inj h; refine E.l fun n k x => ?_) | refine E.c (ih _ h) fun n k x I => ?_
  intro e m i0 i1 i2 K R hK
  rw [zaP]
  (conv => lhs; arg 4; whnf)
  first | (simp -dsimp -implicitDefEqProofs only [go_sem, *, simprocAttr]; simp only [zcH] at hK; refine hK _ _ ?_; simp -dsimp -implicitDefEqProofs only [go_sem, *, simprocAttr]) | (simp -dsimp -implicitDefEqProofs only [go_sem, *, simprocAttr]; refine zan (I.1 _ _ ?_ ?_ ?_ _ _ hK); (iterate 3 (simp -dsimp -implicitDefEqProofs only [go_sem, *, simprocAttr]))) | (simp -dsimp -implicitDefEqProofs only [go_sem, *, simprocAttr]; simp only [zcH] at hK; refine hK _ _ ?_ ?_; (iterate 2 (simp -dsimp -implicitDefEqProofs only [go_sem, *, simprocAttr])))
theorem zoW {kk : Nat} {a : (Sl Val)} {b : Int} {r : Bool} (h : zfo kk a b = some r) : Ev cfg 37 [(dSl zbv a), (.int .i64 b)] (.bool r) := by
 unfold zfo at h
 have E := evT
 rcases zaX h with ⟨r7_, o6_, h⟩ | ⟨q5, o6_, h⟩
 obtain ⟨_, l5_, E⟩ := E.lp (zgG o6_)
 rotate_left
 obtain ⟨_, l8_, E⟩ := E.lp (zgG o6_)
 rotate_left
 all_goals
  obtain rfl := Option.some.inj h
  refine E.s fun n x => ?_
  first | (have := l5_; simp -dsimp -implicitDefEqProofs only [go_sem, func37, f37, *, simprocAttr]; refine zan (l5_.1 n (by omega) _ _ ?_ ?_ ?_ _ _ ?_); (iterate 3 (simp -dsimp -implicitDefEqProofs only [go_sem, *, simprocAttr])); simp only [zcH]; intro e m i0; simp -dsimp -implicitDefEqProofs only [go_sem, func37, f37, *, simprocAttr]) | (have := l8_; simp -dsimp -implicitDefEqProofs only [go_sem, func37, f37, *, simprocAttr]; refine zan (l8_.1 n (by omega) _ _ ?_ ?_ ?_ _ _ ?_); (iterate 3 (simp -dsimp -implicitDefEqProofs only [go_sem, *, simprocAttr])); simp only [zcH]; intro e m i0 i1; simp -dsimp -implicitDefEqProofs only [go_sem, func37, f37, *, simprocAttr])
theorem zoZ (a : (Sl Val)) (b : Int) (h : a.l.length < big - 1) : Ev cfg 37 [(dSl zbv a), (.int .i64 b)] (.bool (zik a b)) := zoW (zku (kk := big) a b h)
def zdC (c1 : Sl zaK) (K : Ex → St → Option Res) (R : Option Res) : Out (Bool) (Int) → Prop
 | .ret r => ∀ (e : Env) (m : Mem), e 4 = (.bool r) → K .ret ⟨e, m⟩ = R
 | .done q => ∀ (e : Env) (m : Mem), K (.exit 0) ⟨e, m⟩ = R
noncomputable def znz : Code := zcB f19 [1, 1, 0, 1, 0, 0]
theorem ziw {c1 : Sl zaK} {kk : Nat} : ∀ {k : Nat} {s2 : Int} {out : Out (Bool) (Int)}, zcP c1 kk k s2 = some out → ∃ N, ∀ n, N ≤ n → ∀ k, N ≤ k → ∀ (e : Env) (m : Mem), e 0 = (dSl za4 c1) → e 5 = (.int .i64 s2) → ∀ (K : Ex → St → Option Res) (R : Option Res), zdC c1 K R out → zci (zbu cfg (dfn cfg n) n znz) K k ⟨e, m⟩ = R := by
 intro k
 induction k with
 | zero => intro s2 out h; cases h
 | succ k ih => ?_
 intro s2 out h
 have ih := fun x0 {out} => @ih x0 out
 unfold zcP at h
 have E := evT
 rcases zag h with ⟨h1_, h⟩ | ⟨h1_, h⟩
 obtain ⟨y3, h2_, h⟩ := zaa h
 obtain ⟨_, h3_⟩ := za7 h2_
 have h3_ := zbc h3_ za4
 obtain ⟨_, h4_, h⟩ := zaa h
 have E := E.and (zoZ y3.values 6 (zay h4_))
 rcases zag h with ⟨h5_, h⟩ | ⟨h5_, h⟩
 have b6_ := zaY h5_
 have b7_ := zaA b6_
 obtain ⟨_, h8_, h⟩ := zaa h
 have E := E.and (zs4 20 (Sl.of [y3.ann]) (zay h8_))
 rcases zag h with ⟨h9_, h⟩ | ⟨h9_, h⟩
 have b10_ := zaY h9_
 try simp only [Sl.of] at b10_
 rotate_left
 have b11_ := zaA h9_
 try simp only [Sl.of] at b11_
 rotate_left
 have b12_ := zaA h5_
 have b13_ := zaY b12_
 rotate_left
 rotate_left
 all_goals
  first | (obtain rfl := Option.some.inj h; refine E.l fun n k x => ?_) | refine E.c (ih _ h) fun n k x I => ?_
  intro e m i0 i1 K R hK
  (try simp -dsimp -implicitDefEqProofs only [go_sem, simprocAttr] at x)
  rw [zaP]
  (conv => lhs; arg 4; whnf)
  first | (simp -dsimp -implicitDefEqProofs only [go_sem, *, simprocAttr]; simp only [zdC] at hK; refine hK _ _ ?_; simp -dsimp -implicitDefEqProofs only [go_sem, *, simprocAttr]) | (simp -dsimp -implicitDefEqProofs only [go_sem, *, simprocAttr]; refine zan (I.1 _ _ ?_ ?_ _ _ hK); (iterate 2 (simp -dsimp -implicitDefEqProofs only [go_sem, *, simprocAttr]))) | (simp -dsimp -implicitDefEqProofs only [go_sem, *, simprocAttr]; simp only [zdC] at hK; refine hK _ _)
theorem zsX {kk : Nat} {a : (Sl zaK)} {b : Int} {r : Bool} (h : zhG kk a b = some r) : Ev cfg 19 [(dSl za4 a), (.int .i64 b)] (.bool r) := by
 unfold zhG at h
 have E := evT
 rcases zag h with ⟨h14_, h⟩ | ⟨h14_, h⟩
 rotate_left
 rcases zaX h with ⟨r17_, o16_, h⟩ | ⟨q6, o16_, h⟩
 obtain ⟨_, l15_, E⟩ := E.lp (ziw o16_)
 rotate_left
 obtain ⟨_, l18_, E⟩ := E.lp (ziw o16_)
 rotate_left
 all_goals
  obtain rfl := Option.some.inj h
  refine E.s fun n x => ?_
  first | (have := l15_; simp -dsimp -implicitDefEqProofs only [go_sem, func19, f19, *, simprocAttr]; refine zan (l15_.1 n (by omega) _ _ ?_ ?_ _ _ ?_); (iterate 2 (simp -dsimp -implicitDefEqProofs only [go_sem, *, simprocAttr])); simp only [zdC]; intro e m i0; simp -dsimp -implicitDefEqProofs only [go_sem, func19, f19, *, simprocAttr]) | (have := l18_; simp -dsimp -implicitDefEqProofs only [go_sem, func19, f19, *, simprocAttr]; refine zan (l18_.1 n (by omega) _ _ ?_ ?_ _ _ ?_); (iterate 2 (simp -dsimp -implicitDefEqProofs only [go_sem, *, simprocAttr])); simp only [zdC]; intro e m; simp -dsimp -implicitDefEqProofs only [go_sem, func19, f19, *, simprocAttr]) | (simp -dsimp -implicitDefEqProofs only [go_sem, func19, f19, *, simprocAttr])
theorem zs3 (a : (Sl zaK)) (b : Int) (h : a.l.length < big - 1 ∧ ∀ x ∈ a.l, x.values.l.length < big - 1 ∧ zat x.ann.l + 1 < lim) : Ev cfg 19 [(dSl za4 a), (.int .i64 b)] (.bool (zju a b)) := zsX (znu (kk := big) a b h)
theorem zsW {kk : Nat} {a : (Sl zaK)} {b : Int} {r : Bool} (h : zhF kk a b = some r) : Ev cfg 5 [(dSl za4 a), (.int .i64 b)] (.bool r) := by
 unfold zhF at h
 have E := evT
 obtain ⟨_, h1_, h⟩ := zaa h
 have E := E.and (zs3 a b (zay h1_))
 obtain rfl := Option.some.inj h
 refine E.s fun n x => ?_
 simp -dsimp -implicitDefEqProofs only [go_sem, func5, f5, *, simprocAttr]
theorem zs2 (a : (Sl zaK)) (b : Int) (h : a.l.length < big - 1 ∧ ∀ x ∈ a.l, x.values.l.length < big - 1 ∧ zat x.ann.l + 1 < lim) : Ev cfg 5 [(dSl za4 a), (.int .i64 b)] (.bool (zju a b)) := zsW (znt (kk := big) a b h)
def zbt (c1 : Sl Val) (c2 : Sl Val) (K : Ex → St → Option Res) (R : Option Res) : Out (Int) (Int) → Prop
 | .ret r => ∀ (e : Env) (m : Mem), e 4 = (.int .i64 r) → K .ret ⟨e, m⟩ = R
 | .done q => ∀ (e : Env) (m : Mem), e 0 = (dSl zbv c1) → e 1 = (dSl zbv c2) → K (.exit 0) ⟨e, m⟩ = R
noncomputable def zgy : Code := zcB f43 [1, 0, 1, 0, 0]
theorem zdL {c1 : Sl Val} {c2 : Sl Val} {kk : Nat} : ∀ {k : Nat} {s3 : Int} {out : Out (Int) (Int)}, zbG c1 c2 kk k s3 = some out → ∃ N, ∀ n, N ≤ n → ∀ k, N ≤ k → ∀ (e : Env) (m : Mem), e 0 = (dSl zbv c1) → e 1 = (dSl zbv c2) → e 5 = (.int .i64 s3) → ∀ (K : Ex → St → Option Res) (R : Option Res), zbt c1 c2 K R out → zci (zbu cfg (dfn cfg n) n zgy) K k ⟨e, m⟩ = R := by
 intro k
 induction k with
 | zero => intro s3 out h; cases h
 | succ k ih => ?_
 intro s3 out h
 have ih := fun x0 {out} => @ih x0 out
 unfold zbG at h
 have E := evT
 rcases zag h with ⟨h1_, h⟩ | ⟨h1_, h⟩
 obtain ⟨b2_, b3_⟩ := zbX h1_
 obtain ⟨y4, h4_, h⟩ := zaa h
 obtain ⟨_, h5_⟩ := za7 h4_
 have h5_ := zbc h5_ zbv
 obtain ⟨y5, h6_, h⟩ := zaa h
 obtain ⟨_, h7_⟩ := za7 h6_
 have h7_ := zbc h7_ zbv
 have E := E.and (zfp y4 y5)
 rcases zag h with ⟨h8_, h⟩ | ⟨h8_, h⟩
 rotate_left
 rotate_left
 rcases zbA h1_ with b9_ | ⟨b9_, b10_⟩
 rotate_left
 rotate_left
 all_goals
  first | (obtain rfl := Option.some.inj h; refine E.l fun n k x => ?_) | refine E.c (ih _ h) fun n k x I => ?_
  intro e m i0 i1 i2 K R hK
  rw [zaP]
  (conv => lhs; arg 4; whnf)
  first | (simp -dsimp -implicitDefEqProofs only [go_sem, *, simprocAttr]; simp only [zbt] at hK; refine hK _ _ ?_; simp -dsimp -implicitDefEqProofs only [go_sem, *, simprocAttr]) | (simp -dsimp -implicitDefEqProofs only [go_sem, *, simprocAttr]; refine zan (I.1 _ _ ?_ ?_ ?_ _ _ hK); (iterate 3 (simp -dsimp -implicitDefEqProofs only [go_sem, *, simprocAttr]))) | (simp -dsimp -implicitDefEqProofs only [go_sem, *, simprocAttr]; simp only [zbt] at hK; refine hK _ _ ?_ ?_; (iterate 2 (simp -dsimp -implicitDefEqProofs only [go_sem, *, simprocAttr])))
theorem zh8 {kk : Nat} {a : (Sl Val)} {b : (Sl Val)} {r : Int} (h : zcy kk a b = some r) : Ev cfg 43 [(dSl zbv a), (dSl zbv b)] (.int .i64 r) := by
 unfold zcy at h
 have E := evT
 rcases zaX h with ⟨r13_, o12_, h⟩ | ⟨q6, o12_, h⟩
 obtain ⟨_, l11_, E⟩ := E.lp (zdL o12_)
 rotate_left
 obtain ⟨_, l14_, E⟩ := E.lp (zdL o12_)
 rcases zag h with ⟨h15_, h⟩ | ⟨h15_, h⟩
 rotate_left
 have E := E.and (zgo (decide ((a.l.length : Int) < (b.l.length : Int))))
 rotate_left
 all_goals
  obtain rfl := Option.some.inj h
  refine E.s fun n x => ?_
  first | (have := l11_; simp -dsimp -implicitDefEqProofs only [go_sem, func43, f43, *, simprocAttr]; refine zan (l11_.1 n (by omega) _ _ ?_ ?_ ?_ _ _ ?_); (iterate 3 (simp -dsimp -implicitDefEqProofs only [go_sem, *, simprocAttr])); simp only [zbt]; intro e m i0; simp -dsimp -implicitDefEqProofs only [go_sem, func43, f43, *, simprocAttr]) | (have := l14_; simp -dsimp -implicitDefEqProofs only [go_sem, func43, f43, *, simprocAttr]; refine zan (l14_.1 n (by omega) _ _ ?_ ?_ ?_ _ _ ?_); (iterate 3 (simp -dsimp -implicitDefEqProofs only [go_sem, *, simprocAttr])); simp only [zbt]; intro e m i0 i1; simp -dsimp -implicitDefEqProofs only [go_sem, func43, f43, *, simprocAttr])
theorem zih (a : (Sl Val)) (b : (Sl Val)) (h : a.l.length < big - 1 ∧ b.l.length < big - 1) : Ev cfg 43 [(dSl zbv a), (dSl zbv b)] (.int .i64 (zgg a b)) := zh8 (zgv (kk := big) a b h)
theorem zq5 {kk : Nat} {a : (Sl Val)} {b : (Sl Val)} {r : Bool} (h : zgl kk a b = some r) : Ev cfg 23 [(dSl zbv a), (dSl zbv b)] (.bool r) := by
 unfold zgl at h
 have E := evT
 obtain ⟨_, h1_, h⟩ := zaa h
 have E := E.and (zih a b (zay h1_))
 obtain rfl := Option.some.inj h
 refine E.s fun n x => ?_
 simp -dsimp -implicitDefEqProofs only [go_sem, func23, f23, *, simprocAttr]
theorem zra (a : (Sl Val)) (b : (Sl Val)) (h : a.l.length < big - 1 ∧ b.l.length < big - 1) : Ev cfg 23 [(dSl zbv a), (dSl zbv b)] (.bool (zf7 a b)) := zq5 (zl9 (kk := big) a b h)
theorem zq3 {kk : Nat} {a : (Sl zaE)} {b : (Sl zaE)} {r : Bool} (h : zgk kk a b = some r) : Ev cfg 17 [(dSl zaL a), (dSl zaL b)] (.bool r) := by
 unfold zgk at h
 have E := evT
 obtain ⟨_, h1_, h⟩ := zaa h
 have E := E.and (zmb a b (zay h1_))
 obtain rfl := Option.some.inj h
 refine E.s fun n x => ?_
 simp -dsimp -implicitDefEqProofs only [go_sem, func17, f17, *, simprocAttr]
theorem zq9 (a : (Sl zaE)) (b : (Sl zaE)) (h : zat a.l + zat b.l < big - 1) : Ev cfg 17 [(dSl zaL a), (dSl zaL b)] (.bool (zkA a b)) := zq3 (zl7 (kk := big) a b h (by omega))
def zde (c1 : Sl zaK) (c2 : Sl zaK) (K : Ex → St → Option Res) (R : Option Res) : Out (Bool) (Int) → Prop
 | .ret r => ∀ (e : Env) (m : Mem), e 4 = (.bool r) → K .ret ⟨e, m⟩ = R
 | .done q => ∀ (e : Env) (m : Mem), K (.exit 0) ⟨e, m⟩ = R
noncomputable def zmd : Code := zcB f9 [1, 1, 0, 1, 0, 0]
theorem zhz {c1 : Sl zaK} {c2 : Sl zaK} {kk : Nat} : ∀ {k : Nat} {s3 : Int} {out : Out (Bool) (Int)}, zc0 c1 c2 kk k s3 = some out → ∃ N, ∀ n, N ≤ n → ∀ k, N ≤ k → ∀ (e : Env) (m : Mem), e 0 = (dSl za4 c1) → e 1 = (dSl za4 c2) → e 5 = (.int .i64 s3) → ∀ (K : Ex → St → Option Res) (R : Option Res), zde c1 c2 K R out → zci (zbu cfg (dfn cfg n) n zmd) K k ⟨e, m⟩ = R := by
 intro k
 induction k with
 | zero => intro s3 out h; cases h
 | succ k ih => ?_
 intro s3 out h
 have ih := fun x0 {out} => @ih x0 out
 unfold zc0 at h
 have E := evT
 rcases zag h with ⟨h1_, h⟩ | ⟨h1_, h⟩
 obtain ⟨y4, h2_, h⟩ := zaa h
 obtain ⟨_, h3_⟩ := za7 h2_
 have h3_ := zbc h3_ za4
 obtain ⟨y5, h4_, h⟩ := zaa h
 obtain ⟨_, h5_⟩ := za7 h4_
 have h5_ := zbc h5_ za4
 obtain ⟨_, h6_, h⟩ := zaa h
 have E := E.and (zra y4.values y5.values (zay h6_))
 rcases zag h with ⟨h7_, h⟩ | ⟨h7_, h⟩
 have b8_ := zaY h7_
 have b9_ := zaA b8_
 obtain ⟨_, h10_, h⟩ := zaa h
 have E := E.and (zq9 y4.ann y5.ann (zay h10_))
 rcases zag h with ⟨h11_, h⟩ | ⟨h11_, h⟩
 have b12_ := zaY h11_
 rotate_left
 have b13_ := zaA h11_
 rotate_left
 have b14_ := zaA h7_
 have b15_ := zaY b14_
 rotate_left
 rotate_left
 all_goals
  first | (obtain rfl := Option.some.inj h; refine E.l fun n k x => ?_) | refine E.c (ih _ h) fun n k x I => ?_
  intro e m i0 i1 i2 K R hK
  rw [zaP]
  (conv => lhs; arg 4; whnf)
  first | (simp -dsimp -implicitDefEqProofs only [go_sem, *, simprocAttr]; simp only [zde] at hK; refine hK _ _ ?_; simp -dsimp -implicitDefEqProofs only [go_sem, *, simprocAttr]) | (simp -dsimp -implicitDefEqProofs only [go_sem, *, simprocAttr]; refine zan (I.1 _ _ ?_ ?_ ?_ _ _ hK); (iterate 3 (simp -dsimp -implicitDefEqProofs only [go_sem, *, simprocAttr]))) | (simp -dsimp -implicitDefEqProofs only [go_sem, *, simprocAttr]; simp only [zde] at hK; refine hK _ _)
theorem zq2 {kk : Nat} {a : (Sl zaK)} {b : (Sl zaK)} {r : Bool} (h : zgj kk a b = some r) : Ev cfg 9 [(dSl za4 a), (dSl za4 b)] (.bool r) := by
 unfold zgj at h
 have E := evT
 rcases zag h with ⟨h16_, h⟩ | ⟨h16_, h⟩
 rotate_left
 rcases zaX h with ⟨r19_, o18_, h⟩ | ⟨q8, o18_, h⟩
 obtain ⟨_, l17_, E⟩ := E.lp (zhz o18_)
 rotate_left
 obtain ⟨_, l20_, E⟩ := E.lp (zhz o18_)
 rotate_left
 all_goals
  obtain rfl := Option.some.inj h
  refine E.s fun n x => ?_
  first | (have := l17_; simp -dsimp -implicitDefEqProofs only [go_sem, func9, f9, *, simprocAttr]; refine zan (l17_.1 n (by omega) _ _ ?_ ?_ ?_ _ _ ?_); (iterate 3 (simp -dsimp -implicitDefEqProofs only [go_sem, *, simprocAttr])); simp only [zde]; intro e m i0; simp -dsimp -implicitDefEqProofs only [go_sem, func9, f9, *, simprocAttr]) | (have := l20_; simp -dsimp -implicitDefEqProofs only [go_sem, func9, f9, *, simprocAttr]; refine zan (l20_.1 n (by omega) _ _ ?_ ?_ ?_ _ _ ?_); (iterate 3 (simp -dsimp -implicitDefEqProofs only [go_sem, *, simprocAttr])); simp only [zde]; intro e m; simp -dsimp -implicitDefEqProofs only [go_sem, func9, f9, *, simprocAttr]) | (simp -dsimp -implicitDefEqProofs only [go_sem, func9, f9, *, simprocAttr])
theorem zgn (a : (Sl zaK)) (b : (Sl zaK)) (h : a.l.length < big - 1 ∧ (∀ x ∈ a.l, x.values.l.length < big - 1 ∧ zat x.ann.l < lim) ∧ (∀ x ∈ b.l, x.values.l.length < big - 1 ∧ zat x.ann.l < lim)) : Ev cfg 9 [(dSl za4 a), (dSl za4 b)] (.bool (zgA a b)) := zq2 (zl6 (kk := big) a b h)
def zaZ (c1 : Sl Int) (c2 : Int) (c3 : Int) (c4 : zaK) (c5 : zaK) (K : Ex → St → Option Res) (R : Option Res) (q : Bool) : Prop := ∀ (e : Env) (m : Mem), e 2 = (dSl (cI .i64) c1) → e 3 = (.int .i64 c2) → e 4 = (.int .i64 c3) → zeQ (e 5) m 5 2 (za4 c4) → zeQ (e 6) m 6 2 (za4 c5) → e 30 = (.bool (q)) → K .normal ⟨e, m⟩ = R
noncomputable def zcJ : Code := zcB f3 [1, 0, 0]
theorem zeC {c1 : Sl Int} {c2 : Int} {c3 : Int} {c4 : zaK} {c5 : zaK} {kk : Nat} {out : Bool} (h : zbo c1 c2 c3 c4 c5 kk = some out) : ∃ N, ∀ n, N ≤ n → ∀ (e : Env) (m : Mem), e 2 = (dSl (cI .i64) c1) → e 3 = (.int .i64 c2) → e 4 = (.int .i64 c3) → zeQ (e 5) m 5 2 (za4 c4) → zeQ (e 6) m 6 2 (za4 c5) → ∀ (K : Ex → St → Option Res) (R : Option Res), zaZ c1 c2 c3 c4 c5 K R out → zbu cfg (dfn cfg n) n zcJ K ⟨e, m⟩ = R := by
 unfold zbo at h
 have E := evT
 have e1_ : zim [] = some (.bool ((znh))) := zkH
 rcases zag h with ⟨h2_, h⟩ | ⟨h2_, h⟩
 have b3_ := zaY h2_
 have b4_ := zaA b3_
 obtain ⟨_, h5_, h⟩ := zaa h
 have E := E.and (zs2 (Sl.of [c4, c5]) 2 (zay h5_))
 rcases Bool.eq_false_or_eq_true (((zju (Sl.of [c4, c5]) 2))) with h6_ | h6_
 try simp only [Sl.of] at h6_
 rotate_left
 try simp only [Sl.of] at h6_
 rotate_left
 have b7_ := zaA h2_
 have b8_ := zaY b7_
 rotate_left
 all_goals
  obtain rfl := Option.some.inj h
  refine E.j fun n x => ?_
  intro e m i0 i1 i2 i3 i4 K R hK
  (try simp -dsimp -implicitDefEqProofs only [go_sem, zcG, simprocAttr] at x)
  obtain ⟨_, _, _⟩ := i3
  obtain ⟨_, _, _⟩ := i4
  (conv => lhs; arg 4; whnf)
  simp -dsimp -implicitDefEqProofs only [go_sem, zcG, *, simprocAttr]
  simp only [zaZ] at hK
  refine hK _ _ ?_ ?_ ?_ ?_ ?_ ?_
  (iterate 6 (simp -dsimp -implicitDefEqProofs only [go_sem, zcG, *, simprocAttr]))
theorem zfw {kk : Nat} {a : zaK} {b : zaK} {c : (Sl Int)} {d : Int} {e : Int} {r : Bool} (h : zbK kk a b c d e = some r) : Ev cfg 3 [(.agg (za4 a)), (.agg (za4 b)), (dSl (cI .i64) c), (.int .i64 d), (.int .i64 e)] (.bool r) := by
 unfold zbK at h
 have E := evT
 obtain ⟨q7, o10_, h⟩ := zaa h
 obtain ⟨_, l9_, E⟩ := E.lj (zeC o10_)
 rcases zag h with ⟨h12_, h⟩ | ⟨h12_, h⟩
 have e13_ : zim [] = some (.bool ((znh))) := zkH
 rotate_left
 obtain ⟨_, h14_, h⟩ := zaa h
 have E := E.and (zbZ a c d e (zay h14_))
 obtain ⟨_, h15_, h⟩ := zaa h
 have E := E.and (znw a c d e (zay h15_))
 rcases zag h with ⟨h16_, h⟩ | ⟨h16_, h⟩
 rcases zdb h16_ with b17_ | ⟨b17_, b18_⟩
 rotate_left
 rotate_left
 obtain ⟨b19_, b20_⟩ := zbE h16_
 obtain ⟨_, h21_, h⟩ := zaa h
 obtain ⟨_, l22_, E⟩ := E.lj (zhK a c (zay h21_))
 rcases zag h with ⟨h23_, h⟩ | ⟨h23_, h⟩
 obtain ⟨_, h24_, h⟩ := zaa h
 obtain ⟨_, l25_, E⟩ := E.lj (zhK b c (zay h24_))
 rcases zag h with ⟨h26_, h⟩ | ⟨h26_, h⟩
 rcases zag h with ⟨h27_, h⟩ | ⟨h27_, h⟩
 obtain ⟨b28_, b29_⟩ := zbX h27_
 obtain ⟨_, h30_, h⟩ := zaa h
 have E := E.and (zgn (Sl.of [(zaK.zero.setValues Sl.nil)]) (Sl.of [(zaK.zero.setValues Sl.nil)]) (zay h30_))
 rcases zag h with ⟨h31_, h⟩ | ⟨h31_, h⟩
 have b32_ := zaY h31_
 have b33_ := zaA b32_
 try simp only [Sl.of] at b33_
 obtain ⟨_, h34_, h⟩ := zaa h
 have E := E.and (zbZ b c d e (zay h34_))
 rotate_left
 have b35_ := zaA h31_
 have b36_ := zaY b35_
 try simp only [Sl.of] at b36_
 rotate_left
 rcases zbA h27_ with b37_ | ⟨b37_, b38_⟩
 rotate_left
 rotate_left
 rcases zag h with ⟨h39_, h⟩ | ⟨h39_, h⟩
 obtain ⟨b40_, b41_⟩ := zbX h39_
 obtain ⟨_, h42_, h⟩ := zaa h
 have E := E.and (zgn (Sl.of [(zaK.zero.setValues Sl.nil)]) (Sl.of [(zaK.zero.setValues (Sl.of ((zdF b c).1).l))]) (zay h42_))
 rcases zag h with ⟨h43_, h⟩ | ⟨h43_, h⟩
 have b44_ := zaY h43_
 have b45_ := zaA b44_
 try simp only [Sl.of] at b45_
 obtain ⟨_, h46_, h⟩ := zaa h
 have E := E.and (zbZ b c d e (zay h46_))
 rotate_left
 have b47_ := zaA h43_
 have b48_ := zaY b47_
 try simp only [Sl.of] at b48_
 rotate_left
 rcases zbA h39_ with b49_ | ⟨b49_, b50_⟩
 rotate_left
 rotate_left
 obtain ⟨_, h51_, h⟩ := zaa h
 obtain ⟨_, l52_, E⟩ := E.lj (zhK b c (zay h51_))
 rcases zag h with ⟨h53_, h⟩ | ⟨h53_, h⟩
 rcases zag h with ⟨h54_, h⟩ | ⟨h54_, h⟩
 obtain ⟨b55_, b56_⟩ := zbX h54_
 obtain ⟨_, h57_, h⟩ := zaa h
 have E := E.and (zgn (Sl.of [(zaK.zero.setValues (Sl.of ((zdF a c).1).l))]) (Sl.of [(zaK.zero.setValues Sl.nil)]) (zay h57_))
 rcases zag h with ⟨h58_, h⟩ | ⟨h58_, h⟩
 have b59_ := zaY h58_
 have b60_ := zaA b59_
 try simp only [Sl.of] at b60_
 obtain ⟨_, h61_, h⟩ := zaa h
 have E := E.and (zbZ b c d e (zay h61_))
 rotate_left
 have b62_ := zaA h58_
 have b63_ := zaY b62_
 try simp only [Sl.of] at b63_
 rotate_left
 rcases zbA h54_ with b64_ | ⟨b64_, b65_⟩
 rotate_left
 rotate_left
 rcases zag h with ⟨h66_, h⟩ | ⟨h66_, h⟩
 obtain ⟨b67_, b68_⟩ := zbX h66_
 obtain ⟨_, h69_, h⟩ := zaa h
 have E := E.and (zgn (Sl.of [(zaK.zero.setValues (Sl.of ((zdF a c).1).l))]) (Sl.of [(zaK.zero.setValues (Sl.of ((zdF b c).1).l))]) (zay h69_))
 rcases zag h with ⟨h70_, h⟩ | ⟨h70_, h⟩
 have b71_ := zaY h70_
 have b72_ := zaA b71_
 try simp only [Sl.of] at b72_
 obtain ⟨_, h73_, h⟩ := zaa h
 have E := E.and (zbZ b c d e (zay h73_))
 rotate_left
 have b74_ := zaA h70_
 have b75_ := zaY b74_
 try simp only [Sl.of] at b75_
 rotate_left
 rcases zbA h66_ with b76_ | ⟨b76_, b77_⟩
 rotate_left
 rotate_left
 all_goals
  obtain rfl := Option.some.inj h
  refine E.s fun n x => ?_
  (try simp -dsimp -implicitDefEqProofs only [go_sem, zcG, simprocAttr] at x)
  have j0 := zqL cfg (dfn cfg n) n zcJ
  (conv at j0 => intro k s; lhs; arg 4; whnf)
  first | (have := l22_; obtain ⟨_, el22_⟩ := l22_.1 n (by omega); simp only [zlz, zfg, if_true, if_false, Bool.false_eq_true, *] at el22_; (try simp -dsimp -implicitDefEqProofs only [go_sem, zcG, simprocAttr] at el22_); (first | (have := l25_; obtain ⟨_, el25_⟩ := l25_.1 n (by omega); simp only [zlz, zfg, if_true, if_false, Bool.false_eq_true, *] at el25_; (try simp -dsimp -implicitDefEqProofs only [go_sem, zcG, simprocAttr] at el25_); simp -dsimp -implicitDefEqProofs only [go_sem, ↓j0, func3, f3, zcG, *, simprocAttr]; refine zlu (l9_.1 n (by omega) _ _ ?_ ?_ ?_ ?_ ?_ _ _ ?_); (iterate 5 (simp -dsimp -implicitDefEqProofs only [go_sem, zcG, *, simprocAttr])); simp only [zaZ]; intro e m i0 i1 i2 i3 i4 i5; obtain ⟨_, _, _⟩ := i3; obtain ⟨_, _, _⟩ := i4; simp -dsimp -implicitDefEqProofs only [go_sem, ↓j0, func3, f3, zcG, *, simprocAttr]) | (have := l52_; obtain ⟨_, el52_⟩ := l52_.1 n (by omega); simp only [zlz, zfg, if_true, if_false, Bool.false_eq_true, *] at el52_; (try simp -dsimp -implicitDefEqProofs only [go_sem, zcG, simprocAttr] at el52_); simp -dsimp -implicitDefEqProofs only [go_sem, ↓j0, func3, f3, zcG, *, simprocAttr]; refine zlu (l9_.1 n (by omega) _ _ ?_ ?_ ?_ ?_ ?_ _ _ ?_); (iterate 5 (simp -dsimp -implicitDefEqProofs only [go_sem, zcG, *, simprocAttr])); simp only [zaZ]; intro e m i0 i1 i2 i3 i4 i5; obtain ⟨_, _, _⟩ := i3; obtain ⟨_, _, _⟩ := i4; simp -dsimp -implicitDefEqProofs only [go_sem, ↓j0, func3, f3, zcG, *, simprocAttr]))) | (have := l9_; simp -dsimp -implicitDefEqProofs only [go_sem, ↓j0, func3, f3, zcG, *, simprocAttr]; refine zlu (l9_.1 n (by omega) _ _ ?_ ?_ ?_ ?_ ?_ _ _ ?_); (iterate 5 (simp -dsimp -implicitDefEqProofs only [go_sem, zcG, *, simprocAttr])); simp only [zaZ]; intro e m i0 i1 i2 i3 i4 i5; obtain ⟨_, _, _⟩ := i3; obtain ⟨_, _, _⟩ := i4; simp -dsimp -implicitDefEqProofs only [go_sem, ↓j0, func3, f3, zcG, *, simprocAttr])
theorem zfx (a : zaK) (b : zaK) (c : (Sl Int)) (d : Int) (e : Int) (h : zpm a b c d e) : Ev cfg 3 [(.agg (za4 a)), (.agg (za4 b)), (dSl (cI .i64) c), (.int .i64 d), (.int .i64 e)] (.bool (zrw a b c d e)) := zfw (zeD (kk := big) a b c d e h)
end Go.Proofs.Tryz
