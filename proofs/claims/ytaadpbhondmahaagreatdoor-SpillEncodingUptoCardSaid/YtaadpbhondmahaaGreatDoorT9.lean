/- Part of a proof. -/
import Derived.Test.YtaadpbhondmahaaGreatDoorT3
import Derived.Test.YtaadpbhondmahaaGreatDoorT8
set_option linter.all false
namespace Go.Proofs.Tryz
open Go.Ev
def zvM : Nat := 256
def zQu : List (Nat × (List D -> Option D)) := [(235, zpv), (186, zld), (193, zRz), (237, zJ1), (172, zpu zvM), (212, zJ8 zvM), (121, zvJ), (128, zJ4), (98, zHv), (96, ziV), (5, zz6)]
def zFp (f : Nat) : Option (List D -> Option D) := (zQu.find? fun x => Nat.beq x.1 f).map (·.2)
def zWj : List Nat := [22, 47, 62, 113, 148, 149, 150, 151, 152, 153, 154, 155, 176, 179, 180, 199]
def zNy (f : Nat) : Bool := zWj.any fun x => Nat.beq x f
def zWi : List Nat := [26, 53]
def zNx (f : Nat) : Bool := zWi.any fun x => Nat.beq x f
noncomputable def cfg : Cfg := { P := prog, prim := zFp, byRef := zNy, fine := fun f => decide (f < 286), byRes := zNx }
@[go_sem] theorem z1i (f) : cfg.alt f = none := rfl
@[go_sem] theorem z2A : cfg.P = prog := rfl
@[go_sem] theorem zZK (f) : cfg.fine f = decide (f < 286) := rfl
@[go_sem] theorem zX0 : cfg.prim 5 = some (zz6) /\ cfg.prim 6 = none /\ cfg.prim 7 = none /\ cfg.prim 8 = none /\ cfg.prim 9 = none /\ cfg.prim 10 = none /\ cfg.prim 17 = none /\ cfg.prim 18 = none /\ cfg.prim 19 = none /\ cfg.prim 20 = none /\ cfg.prim 21 = none /\ cfg.prim 22 = none /\ cfg.prim 23 = none /\ cfg.prim 24 = none /\ cfg.prim 25 = none /\ cfg.prim 26 = none /\ cfg.prim 27 = none /\ cfg.prim 28 = none /\ cfg.prim 29 = none /\ cfg.prim 30 = none /\ cfg.prim 31 = none /\ cfg.prim 32 = none /\ cfg.prim 33 = none /\ cfg.prim 39 = none /\ cfg.prim 40 = none /\ cfg.prim 41 = none /\ cfg.prim 42 = none /\ cfg.prim 43 = none /\ cfg.prim 44 = none /\ cfg.prim 45 = none /\ cfg.prim 46 = none /\ cfg.prim 47 = none /\ cfg.prim 48 = none /\ cfg.prim 49 = none /\ cfg.prim 50 = none /\ cfg.prim 51 = none /\ cfg.prim 52 = none /\ cfg.prim 53 = none /\ cfg.prim 54 = none /\ cfg.prim 55 = none := by and_intros <;> rfl
@[go_sem] theorem zVI : cfg.prim 56 = none /\ cfg.prim 57 = none /\ cfg.prim 58 = none /\ cfg.prim 59 = none /\ cfg.prim 69 = none /\ cfg.prim 70 = none /\ cfg.prim 71 = none /\ cfg.prim 72 = none /\ cfg.prim 73 = none /\ cfg.prim 74 = none /\ cfg.prim 75 = none /\ cfg.prim 76 = none /\ cfg.prim 77 = none /\ cfg.prim 78 = none /\ cfg.prim 79 = none /\ cfg.prim 80 = none /\ cfg.prim 81 = none /\ cfg.prim 82 = none /\ cfg.prim 83 = none /\ cfg.prim 84 = none /\ cfg.prim 85 = none /\ cfg.prim 86 = none /\ cfg.prim 87 = none /\ cfg.prim 88 = none /\ cfg.prim 89 = none /\ cfg.prim 90 = none /\ cfg.prim 91 = none /\ cfg.prim 92 = none /\ cfg.prim 93 = none /\ cfg.prim 94 = none /\ cfg.prim 95 = none /\ cfg.prim 96 = some (ziV) /\ cfg.prim 97 = none /\ cfg.prim 98 = some (zHv) /\ cfg.prim 99 = none /\ cfg.prim 100 = none /\ cfg.prim 101 = none /\ cfg.prim 102 = none /\ cfg.prim 103 = none /\ cfg.prim 104 = none := by and_intros <;> rfl
@[go_sem] theorem zSQ : cfg.prim 105 = none /\ cfg.prim 106 = none /\ cfg.prim 107 = none /\ cfg.prim 108 = none /\ cfg.prim 109 = none /\ cfg.prim 110 = none /\ cfg.prim 115 = none /\ cfg.prim 116 = none /\ cfg.prim 117 = none /\ cfg.prim 118 = none /\ cfg.prim 119 = none /\ cfg.prim 120 = none /\ cfg.prim 121 = some (zvJ) /\ cfg.prim 122 = none /\ cfg.prim 123 = none /\ cfg.prim 124 = none /\ cfg.prim 125 = none /\ cfg.prim 127 = none /\ cfg.prim 128 = some (zJ4) /\ cfg.prim 132 = none /\ cfg.prim 133 = none /\ cfg.prim 134 = none /\ cfg.prim 135 = none /\ cfg.prim 136 = none /\ cfg.prim 137 = none /\ cfg.prim 138 = none /\ cfg.prim 139 = none /\ cfg.prim 140 = none /\ cfg.prim 141 = none /\ cfg.prim 142 = none /\ cfg.prim 143 = none /\ cfg.prim 144 = none /\ cfg.prim 145 = none /\ cfg.prim 146 = none /\ cfg.prim 147 = none /\ cfg.prim 158 = none /\ cfg.prim 164 = none /\ cfg.prim 165 = none /\ cfg.prim 166 = none /\ cfg.prim 167 = none := by and_intros <;> rfl
@[go_sem] theorem zSc : cfg.prim 171 = none /\ cfg.prim 172 = some (zpu zvM) /\ cfg.prim 173 = none /\ cfg.prim 174 = none /\ cfg.prim 175 = none /\ cfg.prim 186 = some (zld) /\ cfg.prim 189 = none /\ cfg.prim 192 = none /\ cfg.prim 193 = some (zRz) /\ cfg.prim 194 = none /\ cfg.prim 195 = none /\ cfg.prim 196 = none /\ cfg.prim 197 = none /\ cfg.prim 198 = none /\ cfg.prim 209 = none /\ cfg.prim 210 = none /\ cfg.prim 211 = none /\ cfg.prim 212 = some (zJ8 zvM) /\ cfg.prim 213 = none /\ cfg.prim 214 = none /\ cfg.prim 223 = none /\ cfg.prim 225 = none /\ cfg.prim 226 = none /\ cfg.prim 234 = none /\ cfg.prim 235 = some (zpv) /\ cfg.prim 236 = none /\ cfg.prim 237 = some (zJ1) /\ cfg.prim 240 = none /\ cfg.byRef 3 = false /\ cfg.byRef 5 = false /\ cfg.byRef 6 = false /\ cfg.byRef 7 = false /\ cfg.byRef 8 = false /\ cfg.byRef 9 = false /\ cfg.byRef 10 = false /\ cfg.byRef 17 = false /\ cfg.byRef 18 = false /\ cfg.byRef 19 = false /\ cfg.byRef 20 = false /\ cfg.byRef 21 = false := by and_intros <;> rfl
@[go_sem] theorem z0M : cfg.byRef 22 = true /\ cfg.byRef 23 = false /\ cfg.byRef 24 = false /\ cfg.byRef 25 = false /\ cfg.byRef 26 = false /\ cfg.byRef 27 = false /\ cfg.byRef 28 = false /\ cfg.byRef 29 = false /\ cfg.byRef 30 = false /\ cfg.byRef 31 = false /\ cfg.byRef 32 = false /\ cfg.byRef 33 = false /\ cfg.byRef 39 = false /\ cfg.byRef 40 = false /\ cfg.byRef 41 = false /\ cfg.byRef 42 = false /\ cfg.byRef 43 = false /\ cfg.byRef 44 = false /\ cfg.byRef 45 = false /\ cfg.byRef 46 = false /\ cfg.byRef 47 = true /\ cfg.byRef 48 = false /\ cfg.byRef 49 = false /\ cfg.byRef 50 = false /\ cfg.byRef 51 = false /\ cfg.byRef 52 = false /\ cfg.byRef 53 = false /\ cfg.byRef 54 = false /\ cfg.byRef 55 = false /\ cfg.byRef 56 = false /\ cfg.byRef 57 = false /\ cfg.byRef 58 = false /\ cfg.byRef 59 = false /\ cfg.byRef 69 = false /\ cfg.byRef 70 = false /\ cfg.byRef 71 = false /\ cfg.byRef 72 = false /\ cfg.byRef 73 = false /\ cfg.byRef 74 = false /\ cfg.byRef 75 = false := by and_intros <;> rfl
@[go_sem] theorem zZ8 : cfg.byRef 76 = false /\ cfg.byRef 77 = false /\ cfg.byRef 78 = false /\ cfg.byRef 79 = false /\ cfg.byRef 80 = false /\ cfg.byRef 81 = false /\ cfg.byRef 82 = false /\ cfg.byRef 83 = false /\ cfg.byRef 84 = false /\ cfg.byRef 85 = false /\ cfg.byRef 86 = false /\ cfg.byRef 87 = false /\ cfg.byRef 88 = false /\ cfg.byRef 89 = false /\ cfg.byRef 90 = false /\ cfg.byRef 91 = false /\ cfg.byRef 92 = false /\ cfg.byRef 93 = false /\ cfg.byRef 94 = false /\ cfg.byRef 95 = false /\ cfg.byRef 96 = false /\ cfg.byRef 97 = false /\ cfg.byRef 98 = false /\ cfg.byRef 99 = false /\ cfg.byRef 100 = false /\ cfg.byRef 101 = false /\ cfg.byRef 102 = false /\ cfg.byRef 103 = false /\ cfg.byRef 104 = false /\ cfg.byRef 105 = false /\ cfg.byRef 106 = false /\ cfg.byRef 107 = false /\ cfg.byRef 108 = false /\ cfg.byRef 109 = false /\ cfg.byRef 110 = false /\ cfg.byRef 115 = false /\ cfg.byRef 116 = false /\ cfg.byRef 117 = false /\ cfg.byRef 118 = false /\ cfg.byRef 119 = false := by and_intros <;> rfl
@[go_sem] theorem zYV : cfg.byRef 120 = false /\ cfg.byRef 121 = false /\ cfg.byRef 122 = false /\ cfg.byRef 123 = false /\ cfg.byRef 124 = false /\ cfg.byRef 125 = false /\ cfg.byRef 127 = false /\ cfg.byRef 128 = false /\ cfg.byRef 132 = false /\ cfg.byRef 133 = false /\ cfg.byRef 134 = false /\ cfg.byRef 135 = false /\ cfg.byRef 136 = false /\ cfg.byRef 137 = false /\ cfg.byRef 138 = false /\ cfg.byRef 139 = false /\ cfg.byRef 140 = false /\ cfg.byRef 141 = false /\ cfg.byRef 142 = false /\ cfg.byRef 143 = false /\ cfg.byRef 144 = false /\ cfg.byRef 145 = false /\ cfg.byRef 146 = false /\ cfg.byRef 147 = false /\ cfg.byRef 158 = false /\ cfg.byRef 164 = false /\ cfg.byRef 165 = false /\ cfg.byRef 166 = false /\ cfg.byRef 167 = false /\ cfg.byRef 171 = false /\ cfg.byRef 172 = false /\ cfg.byRef 173 = false /\ cfg.byRef 174 = false /\ cfg.byRef 175 = false /\ cfg.byRef 186 = false /\ cfg.byRef 189 = false /\ cfg.byRef 192 = false /\ cfg.byRef 193 = false /\ cfg.byRef 194 = false /\ cfg.byRef 195 = false := by and_intros <;> rfl
@[go_sem] theorem zYh : cfg.byRef 196 = false /\ cfg.byRef 197 = false /\ cfg.byRef 198 = false /\ cfg.byRef 209 = false /\ cfg.byRef 210 = false /\ cfg.byRef 211 = false /\ cfg.byRef 212 = false /\ cfg.byRef 213 = false /\ cfg.byRef 214 = false /\ cfg.byRef 223 = false /\ cfg.byRef 225 = false /\ cfg.byRef 226 = false /\ cfg.byRef 234 = false /\ cfg.byRef 235 = false /\ cfg.byRef 236 = false /\ cfg.byRef 237 = false /\ cfg.byRef 240 = false /\ cfg.byRes 3 = false /\ cfg.byRes 6 = false /\ cfg.byRes 7 = false /\ cfg.byRes 8 = false /\ cfg.byRes 9 = false /\ cfg.byRes 10 = false /\ cfg.byRes 17 = false /\ cfg.byRes 18 = false /\ cfg.byRes 19 = false /\ cfg.byRes 20 = false /\ cfg.byRes 21 = false /\ cfg.byRes 22 = false /\ cfg.byRes 23 = false /\ cfg.byRes 24 = false /\ cfg.byRes 25 = false /\ cfg.byRes 26 = true /\ cfg.byRes 27 = false /\ cfg.byRes 28 = false /\ cfg.byRes 29 = false /\ cfg.byRes 30 = false /\ cfg.byRes 31 = false /\ cfg.byRes 32 = false /\ cfg.byRes 33 = false := by and_intros <;> rfl
@[go_sem] theorem zXD : cfg.byRes 39 = false /\ cfg.byRes 40 = false /\ cfg.byRes 41 = false /\ cfg.byRes 42 = false /\ cfg.byRes 43 = false /\ cfg.byRes 44 = false /\ cfg.byRes 45 = false /\ cfg.byRes 46 = false /\ cfg.byRes 47 = false /\ cfg.byRes 48 = false /\ cfg.byRes 49 = false /\ cfg.byRes 50 = false /\ cfg.byRes 51 = false /\ cfg.byRes 52 = false /\ cfg.byRes 53 = true /\ cfg.byRes 54 = false /\ cfg.byRes 55 = false /\ cfg.byRes 56 = false /\ cfg.byRes 57 = false /\ cfg.byRes 58 = false /\ cfg.byRes 59 = false /\ cfg.byRes 69 = false /\ cfg.byRes 70 = false /\ cfg.byRes 71 = false /\ cfg.byRes 72 = false /\ cfg.byRes 73 = false /\ cfg.byRes 74 = false /\ cfg.byRes 75 = false /\ cfg.byRes 76 = false /\ cfg.byRes 77 = false /\ cfg.byRes 78 = false /\ cfg.byRes 79 = false /\ cfg.byRes 80 = false /\ cfg.byRes 81 = false /\ cfg.byRes 82 = false /\ cfg.byRes 83 = false /\ cfg.byRes 84 = false /\ cfg.byRes 85 = false /\ cfg.byRes 86 = false /\ cfg.byRes 87 = false := by and_intros <;> rfl
@[go_sem] theorem zWZ : cfg.byRes 88 = false /\ cfg.byRes 89 = false /\ cfg.byRes 90 = false /\ cfg.byRes 91 = false /\ cfg.byRes 92 = false /\ cfg.byRes 93 = false /\ cfg.byRes 94 = false /\ cfg.byRes 95 = false /\ cfg.byRes 97 = false /\ cfg.byRes 99 = false /\ cfg.byRes 100 = false /\ cfg.byRes 101 = false /\ cfg.byRes 102 = false /\ cfg.byRes 103 = false /\ cfg.byRes 104 = false /\ cfg.byRes 105 = false /\ cfg.byRes 106 = false /\ cfg.byRes 107 = false /\ cfg.byRes 108 = false /\ cfg.byRes 109 = false /\ cfg.byRes 110 = false /\ cfg.byRes 115 = false /\ cfg.byRes 116 = false /\ cfg.byRes 117 = false /\ cfg.byRes 118 = false /\ cfg.byRes 119 = false /\ cfg.byRes 120 = false /\ cfg.byRes 122 = false /\ cfg.byRes 123 = false /\ cfg.byRes 124 = false /\ cfg.byRes 125 = false /\ cfg.byRes 127 = false /\ cfg.byRes 132 = false /\ cfg.byRes 133 = false /\ cfg.byRes 134 = false /\ cfg.byRes 135 = false /\ cfg.byRes 136 = false /\ cfg.byRes 137 = false /\ cfg.byRes 138 = false /\ cfg.byRes 139 = false := by and_intros <;> rfl
@[go_sem] theorem zUF : cfg.byRes 140 = false /\ cfg.byRes 141 = false /\ cfg.byRes 142 = false /\ cfg.byRes 143 = false /\ cfg.byRes 144 = false /\ cfg.byRes 145 = false /\ cfg.byRes 146 = false /\ cfg.byRes 147 = false /\ cfg.byRes 158 = false /\ cfg.byRes 164 = false /\ cfg.byRes 165 = false /\ cfg.byRes 166 = false /\ cfg.byRes 167 = false /\ cfg.byRes 171 = false /\ cfg.byRes 173 = false /\ cfg.byRes 174 = false /\ cfg.byRes 175 = false /\ cfg.byRes 189 = false /\ cfg.byRes 192 = false /\ cfg.byRes 194 = false /\ cfg.byRes 195 = false /\ cfg.byRes 196 = false /\ cfg.byRes 197 = false /\ cfg.byRes 198 = false /\ cfg.byRes 209 = false /\ cfg.byRes 210 = false /\ cfg.byRes 211 = false /\ cfg.byRes 213 = false /\ cfg.byRes 214 = false /\ cfg.byRes 223 = false /\ cfg.byRes 225 = false /\ cfg.byRes 226 = false /\ cfg.byRes 234 = false /\ cfg.byRes 236 = false /\ cfg.byRes 240 = false := by and_intros <;> rfl
end Go.Proofs.Tryz
set_option maxRecDepth 100000
set_option maxHeartbeats 4000000
namespace Go.Proofs.Tryz
open Go.Ev
attribute [go_sem] func59 f59 func100 f100 func102 f102 func108 f108 func109 f109 func110 f110 func138 f138 func139 f139
theorem zGD {kk : Nat} {a b r : Int} (h : zoA kk a b = some r) : Ev cfg 110 [(.int .i64 a), (.int .i64 b)] (.int .i64 r) := by
 unfold zoA at h
 have E := evT
 rcases zac h with ⟨h1_, h⟩ | ⟨h1_, h⟩
 rotate_left
 rcases zac h with ⟨h2_, h⟩ | ⟨h2_, h⟩
 all_goals
  cases h
  refine E.s fun n x => ?_
  exact zs
theorem zLa {kk : Nat} {a : Bool} {r : Int} (h : zx1 kk a = some r) : Ev cfg 109 [(.bool (a))] (.int .i64 r) := by
 unfold zx1 at h
 have E := evT
 rcases zac h with ⟨h1_, h⟩ | ⟨h1_, h⟩
 all_goals
  cases h
  refine E.s fun n x => ?_
  exact zs
theorem zeG (a b : Int) : Ev cfg 110 [(.int .i64 a), (.int .i64 b)] (.int .i64 (zfR a b)) := zGD (zA7 0 a b)
theorem ztw (a : Bool) : Ev cfg 109 [(.bool (a))] (.int .i64 (sgn a)) := zLa (zEv 0 a)
theorem zyT {kk : Nat} {a b : zbZ} {r : Int} (h : zjN kk a b = some r) : Ev cfg 139 [(.agg (zev a)), (.agg (zev b))] (.int .i64 r) := by
 unfold zjN at h
 have E := evT
 have E := E.and (zeG a.table b.table)
 rcases zac h with ⟨h1_, h⟩ | ⟨h1_, h⟩
 rotate_left
 have E := E.and (zeG a.seq b.seq)
 all_goals
  cases h
  refine E.s fun n x => ?_
  exact zs
theorem zEl {kk : Nat} {a b : Val} {r : Int} (h : zmT kk a b = some r) : Ev cfg 108 [(.agg (zd0 a)), (.agg (zd0 b))] (.int .i64 r) := by
 unfold zmT at h
 have E := evT
 rcases zac h with ⟨h1_, h⟩ | ⟨h1_, h⟩
 have E := E.and (ztw (decide (a.kind < b.kind)))
 rotate_left
 rcases zac h with ⟨h2_, h⟩ | ⟨h2_, h⟩
 have E := E.and (ztw (decide (a.int < b.int)))
 rotate_left
 rcases zac h with ⟨h3_, h⟩ | ⟨h3_, h⟩
 have b4_ := zan h3_
 have E := E.and (ztw (zdf a.text b.text))
 rotate_left
 have b5_ := zal h3_
 all_goals
  cases h
  refine E.s fun n x => ?_
  exact zs
theorem zy7 (a b : zbZ) : Ev cfg 139 [(.agg (zev a)), (.agg (zev b))] (.int .i64 (zpB a b)) := zyT (zu4 0 a b)
theorem zrb (a b : Val) : Ev cfg 108 [(.agg (zd0 a)), (.agg (zd0 b))] (.int .i64 (zfd a b)) := zEl (zy6 0 a b)
def zff (c2 c3 : zas) (K : YK) (R : YL) : Out (Int) (Int) -> Prop
 | .ret r => ∀ (e : Env) (m : Mem), e 4 = (.int .i64 r) -> K .ret ⟨e, m⟩ = R
 | .done q => ∀ (e : Env) (m : Mem), zb9 (e 2) m 2 10 (zbQ c2) -> zb9 (e 3) m 3 10 (zbQ c3) -> K (.exit 0) ⟨e, m⟩ = R
noncomputable def zt2 : Code := za4 f102 [1, 1, 1, 0, 1, 0, 0]
abbrev zPz (sz : Nat) : Prop := (∀ (a b : zas), zby a + zby b < sz -> Ev cfg 102 [(.agg (zbQ a)), (.agg (zbQ b))] (.int .i64 (zb3 a b))) /\ (∀ (a : (Sl zaj)) (b : (Sl zaj)), zaD a.l + zaD b.l < sz -> Ev cfg 100 [(dSl zaz a), (dSl zaz b)] (.int .i64 (zbF a b))) /\ (∀ (a : (Sl zae)) (b : (Sl zae)), zbb a.l + zbb b.l < sz -> Ev cfg 138 [(dSl zao a), (dSl zao b)] (.int .i64 (zcI a b))) /\ (∀ (a : (Sl zam)) (b : (Sl zam)), zak a.l + zak b.l < sz -> Ev cfg 59 [(dSl zaq a), (dSl zaq b)] (.int .i64 (zcR a b)))
theorem zmk {c2 c3 : zas} {sz : Nat} (hg : zPz sz) {kk : Nat} : ∀ {k : Nat} {s1 : Int} {out : Out (Int) (Int)}, zdn c2 c3 sz kk k s1 = some out -> ∃ N, ∀ n, N <= n -> ∀ k, N <= k -> ∀ (e : Env) (m : Mem), zb9 (e 2) m 2 10 (zbQ c2) -> zb9 (e 3) m 3 10 (zbQ c3) -> e 7 = (.int .i64 s1) -> ∀ (K : YK) (R : YL), zff c2 c3 K R out -> zbU (zbt cfg (dfn cfg n) n zt2) K k ⟨e, m⟩ = R := by
 have ⟨_, _, _, hC⟩ := hg
 intro k
 induction k with
 | zero => intro s1 out h; cases h
 | succ k ih => ?_
 intro s1 out h
 have ih := fun x0 {out} => @ih x0 out
 unfold zdn at h
 have E := evT
 rcases zac h with ⟨h1_, h⟩ | ⟨h1_, h⟩
 obtain ⟨b2_, b3_⟩ := zbG h1_
 obtain ⟨y4, h4_, h⟩ := zaa h
 obtain ⟨_, h5_⟩ := zaA h4_
 have h5_ := zav h5_ (cSl zaq)
 obtain ⟨y5, h6_, h⟩ := zaa h
 obtain ⟨_, h7_⟩ := zaA h6_
 have h7_ := zav h7_ (cSl zaq)
 obtain ⟨_, h8_, h⟩ := zaa h
 have E := E.and (hC y4 y5 (zah h8_))
 rcases zac h with ⟨h9_, h⟩ | ⟨h9_, h⟩
 rotate_left
 rotate_left
 rcases zbj h1_ with b10_ | ⟨b10_, b11_⟩
 all_goals
  first | (cases h; refine E.l fun n k x => ?_) | refine E.c (ih _ h) fun n k x I => ?_
  intro e m i0 i1 i2 K R hK
  obtain ⟨_, _, _⟩ := i0
  obtain ⟨_, _, _⟩ := i1
  rw [zap]
  (conv => lhs; arg 4; whnf)
  first | (refine zt ?_; simp only [zff] at hK; refine hK _ _ ?_; exact zs) | (refine zt ?_; refine zaf (I.1 _ _ ?_ ?_ ?_ _ _ hK); (iterate 3 exact zs)) | (refine zt ?_; simp only [zff] at hK; refine hK _ _ ?_ ?_; (iterate 2 exact zs))
theorem zxF {kk : Nat} {a b : zas} {sz : Nat} (hg : zPz sz) {r : Int} (h : zi8 kk sz a b = some r) : Ev cfg 102 [(.agg (zbQ a)), (.agg (zbQ b))] (.int .i64 r) := by
 have ⟨_, _, hI, _⟩ := hg
 unfold zi8 at h
 have E := evT
 have E := E.and (zeG a.kind b.kind)
 rcases zac h with ⟨h12_, h⟩ | ⟨h12_, h⟩
 rotate_left
 have E := E.and (zy7 a.row b.row)
 rcases zac h with ⟨h13_, h⟩ | ⟨h13_, h⟩
 rotate_left
 rcases zaw h with ⟨r16_, o15_, h⟩ | ⟨q7, o15_, h⟩
 obtain ⟨_, l14_, E⟩ := E.lp (zmk hg o15_)
 rotate_left
 obtain ⟨_, l17_, E⟩ := E.lp (zmk hg o15_)
 have E := E.and (zeG (a.args.l.length : Int) (b.args.l.length : Int))
 rcases zac h with ⟨h18_, h⟩ | ⟨h18_, h⟩
 rotate_left
 have E := E.and (zeG a.func b.func)
 rcases zac h with ⟨h19_, h⟩ | ⟨h19_, h⟩
 rotate_left
 obtain ⟨_, h20_, h⟩ := zaa h
 have E := E.and (hI a.items b.items (zah h20_))
 rcases zac h with ⟨h21_, h⟩ | ⟨h21_, h⟩
 rotate_left
 have E := E.and (zeG a.op b.op)
 rcases zac h with ⟨h22_, h⟩ | ⟨h22_, h⟩
 rotate_left
 have E := E.and (zrb a.bound b.bound)
 all_goals
  cases h
  refine E.s fun n x => ?_
  first | (have := l14_; refine zt ?_; refine zaf (l14_.1 n YJ _ _ ?_ ?_ ?_ _ _ ?_); (iterate 3 exact zs); simp only [zff]; intro e m i0; exact zs) | (have := l17_; refine zt ?_; refine zaf (l17_.1 n YJ _ _ ?_ ?_ ?_ _ _ ?_); (iterate 3 exact zs); simp only [zff]; intro e m i0 i1; obtain ⟨_, _, _⟩ := i0; obtain ⟨_, _, _⟩ := i1; exact zs) | (exact zs)
def zdF (c1 c2 : Sl zaj) (K : YK) (R : YL) : Out (Int) (Int) -> Prop
 | .ret r => ∀ (e : Env) (m : Mem), e 4 = (.int .i64 r) -> K .ret ⟨e, m⟩ = R
 | .done q => ∀ (e : Env) (m : Mem), e 0 = (dSl zaz c1) -> e 1 = (dSl zaz c2) -> K (.exit 0) ⟨e, m⟩ = R
noncomputable def zre : Code := za4 f100 [1, 0, 1, 0, 0]
theorem zkw {c1 c2 : Sl zaj} {sz : Nat} (hg : zPz sz) {kk : Nat} : ∀ {k : Nat} {s3 : Int} {out : Out (Int) (Int)}, zf9 c1 c2 sz kk k s3 = some out -> ∃ N, ∀ n, N <= n -> ∀ k, N <= k -> ∀ (e : Env) (m : Mem), e 0 = (dSl zaz c1) -> e 1 = (dSl zaz c2) -> e 5 = (.int .i64 s3) -> ∀ (K : YK) (R : YL), zdF c1 c2 K R out -> zbU (zbt cfg (dfn cfg n) n zre) K k ⟨e, m⟩ = R := by
 have ⟨hA, _, _, _⟩ := hg
 intro k
 induction k with
 | zero => intro s3 out h; cases h
 | succ k ih => ?_
 intro s3 out h
 have ih := fun x0 {out} => @ih x0 out
 unfold zf9 at h
 have E := evT
 rcases zac h with ⟨h1_, h⟩ | ⟨h1_, h⟩
 obtain ⟨b2_, b3_⟩ := zbG h1_
 obtain ⟨y4, h4_, h⟩ := zaa h
 obtain ⟨_, h5_⟩ := zaA h4_
 have h5_ := zav h5_ zaz
 obtain ⟨y5, h6_, h⟩ := zaa h
 obtain ⟨_, h7_⟩ := zaA h6_
 have h7_ := zav h7_ zaz
 obtain ⟨_, h8_, h⟩ := zaa h
 have E := E.and (hA y4.atom y5.atom (zah h8_))
 rcases zac h with ⟨h9_, h⟩ | ⟨h9_, h⟩
 rotate_left
 have E := E.and (zeG y4.exp y5.exp)
 rcases zac h with ⟨h10_, h⟩ | ⟨h10_, h⟩
 rotate_left
 rotate_left
 rcases zbj h1_ with b11_ | ⟨b11_, b12_⟩
 all_goals
  first | (cases h; refine E.l fun n k x => ?_) | refine E.c (ih _ h) fun n k x I => ?_
  intro e m i0 i1 i2 K R hK
  rw [zap]
  (conv => lhs; arg 4; whnf)
  first | (refine zt ?_; simp only [zdF] at hK; refine hK _ _ ?_; exact zs) | (refine zt ?_; refine zaf (I.1 _ _ ?_ ?_ ?_ _ _ hK); (iterate 3 exact zs)) | (refine zt ?_; simp only [zdF] at hK; refine hK _ _ ?_ ?_; (iterate 2 exact zs))
theorem ztF {kk : Nat} {a : (Sl zaj)} {b : (Sl zaj)} {sz : Nat} (hg : zPz sz) {r : Int} (h : zg6 kk sz a b = some r) : Ev cfg 100 [(dSl zaz a), (dSl zaz b)] (.int .i64 r) := by
 unfold zg6 at h
 have E := evT
 rcases zaw h with ⟨r15_, o14_, h⟩ | ⟨q7, o14_, h⟩
 obtain ⟨_, l13_, E⟩ := E.lp (zkw hg o14_)
 rotate_left
 obtain ⟨_, l16_, E⟩ := E.lp (zkw hg o14_)
 have E := E.and (zeG (a.l.length : Int) (b.l.length : Int))
 all_goals
  cases h
  refine E.s fun n x => ?_
  first | (have := l13_; refine zt ?_; refine zaf (l13_.1 n YJ _ _ ?_ ?_ ?_ _ _ ?_); (iterate 3 exact zs); simp only [zdF]; intro e m i0; exact zs) | (have := l16_; refine zt ?_; refine zaf (l16_.1 n YJ _ _ ?_ ?_ ?_ _ _ ?_); (iterate 3 exact zs); simp only [zdF]; intro e m i0 i1; exact zs)
def zez (c1 c2 : Sl zae) (K : YK) (R : YL) : Out (Int) (Int) -> Prop
 | .ret r => ∀ (e : Env) (m : Mem), e 4 = (.int .i64 r) -> K .ret ⟨e, m⟩ = R
 | .done q => ∀ (e : Env) (m : Mem), e 0 = (dSl zao c1) -> e 1 = (dSl zao c2) -> K (.exit 0) ⟨e, m⟩ = R
noncomputable def zs1 : Code := za4 f138 [1, 0, 1, 0, 0]
theorem zlS {c1 c2 : Sl zae} {sz : Nat} (hg : zPz sz) {kk : Nat} : ∀ {k : Nat} {s3 : Int} {out : Out (Int) (Int)}, zg4 c1 c2 sz kk k s3 = some out -> ∃ N, ∀ n, N <= n -> ∀ k, N <= k -> ∀ (e : Env) (m : Mem), e 0 = (dSl zao c1) -> e 1 = (dSl zao c2) -> e 5 = (.int .i64 s3) -> ∀ (K : YK) (R : YL), zez c1 c2 K R out -> zbU (zbt cfg (dfn cfg n) n zs1) K k ⟨e, m⟩ = R := by
 have ⟨_, _, _, hC⟩ := hg
 intro k
 induction k with
 | zero => intro s3 out h; cases h
 | succ k ih => ?_
 intro s3 out h
 have ih := fun x0 {out} => @ih x0 out
 unfold zg4 at h
 have E := evT
 rcases zac h with ⟨h1_, h⟩ | ⟨h1_, h⟩
 obtain ⟨b2_, b3_⟩ := zbG h1_
 obtain ⟨y4, h4_, h⟩ := zaa h
 obtain ⟨_, h5_⟩ := zaA h4_
 have h5_ := zav h5_ zao
 obtain ⟨y5, h6_, h⟩ := zaa h
 obtain ⟨_, h7_⟩ := zaA h6_
 have h7_ := zav h7_ zao
 have E := E.and (zrb y4.value y5.value)
 rcases zac h with ⟨h8_, h⟩ | ⟨h8_, h⟩
 rotate_left
 obtain ⟨_, h9_, h⟩ := zaa h
 have E := E.and (hC y4.ann y5.ann (zah h9_))
 rcases zac h with ⟨h10_, h⟩ | ⟨h10_, h⟩
 rotate_left
 rotate_left
 rcases zbj h1_ with b11_ | ⟨b11_, b12_⟩
 all_goals
  first | (cases h; refine E.l fun n k x => ?_) | refine E.c (ih _ h) fun n k x I => ?_
  intro e m i0 i1 i2 K R hK
  rw [zap]
  (conv => lhs; arg 4; whnf)
  first | (refine zt ?_; simp only [zez] at hK; refine hK _ _ ?_; exact zs) | (refine zt ?_; refine zaf (I.1 _ _ ?_ ?_ ?_ _ _ hK); (iterate 3 exact zs)) | (refine zt ?_; simp only [zez] at hK; refine hK _ _ ?_ ?_; (iterate 2 exact zs))
theorem zwi {kk : Nat} {a : (Sl zae)} {b : (Sl zae)} {sz : Nat} (hg : zPz sz) {r : Int} (h : zie kk sz a b = some r) : Ev cfg 138 [(dSl zao a), (dSl zao b)] (.int .i64 r) := by
 unfold zie at h
 have E := evT
 rcases zaw h with ⟨r15_, o14_, h⟩ | ⟨q7, o14_, h⟩
 obtain ⟨_, l13_, E⟩ := E.lp (zlS hg o14_)
 rotate_left
 obtain ⟨_, l16_, E⟩ := E.lp (zlS hg o14_)
 have E := E.and (zeG (a.l.length : Int) (b.l.length : Int))
 all_goals
  cases h
  refine E.s fun n x => ?_
  first | (have := l13_; refine zt ?_; refine zaf (l13_.1 n YJ _ _ ?_ ?_ ?_ _ _ ?_); (iterate 3 exact zs); simp only [zez]; intro e m i0; exact zs) | (have := l16_; refine zt ?_; refine zaf (l16_.1 n YJ _ _ ?_ ?_ ?_ _ _ ?_); (iterate 3 exact zs); simp only [zez]; intro e m i0 i1; exact zs)
def zhY (c1 c2 : Sl zam) (K : YK) (R : YL) : Out (Int) (Int) -> Prop
 | .ret r => ∀ (e : Env) (m : Mem), e 4 = (.int .i64 r) -> K .ret ⟨e, m⟩ = R
 | .done q => ∀ (e : Env) (m : Mem), e 0 = (dSl zaq c1) -> e 1 = (dSl zaq c2) -> K (.exit 0) ⟨e, m⟩ = R
noncomputable def zzc : Code := za4 f59 [1, 0, 1, 0, 0]
theorem zrx {c1 c2 : Sl zam} {sz : Nat} (hg : zPz sz) {kk : Nat} : ∀ {k : Nat} {s3 : Int} {out : Out (Int) (Int)}, zkM c1 c2 sz kk k s3 = some out -> ∃ N, ∀ n, N <= n -> ∀ k, N <= k -> ∀ (e : Env) (m : Mem), e 0 = (dSl zaq c1) -> e 1 = (dSl zaq c2) -> e 5 = (.int .i64 s3) -> ∀ (K : YK) (R : YL), zhY c1 c2 K R out -> zbU (zbt cfg (dfn cfg n) n zzc) K k ⟨e, m⟩ = R := by
 have ⟨_, hF, _, _⟩ := hg
 intro k
 induction k with
 | zero => intro s3 out h; cases h
 | succ k ih => ?_
 intro s3 out h
 have ih := fun x0 {out} => @ih x0 out
 unfold zkM at h
 have E := evT
 rcases zac h with ⟨h1_, h⟩ | ⟨h1_, h⟩
 obtain ⟨b2_, b3_⟩ := zbG h1_
 obtain ⟨y4, h4_, h⟩ := zaa h
 obtain ⟨_, h5_⟩ := zaA h4_
 have h5_ := zav h5_ zaq
 obtain ⟨y5, h6_, h⟩ := zaa h
 obtain ⟨_, h7_⟩ := zaA h6_
 have h7_ := zav h7_ zaq
 obtain ⟨_, h8_, h⟩ := zaa h
 have E := E.and (hF y4.factors y5.factors (zah h8_))
 rcases zac h with ⟨h9_, h⟩ | ⟨h9_, h⟩
 rotate_left
 have E := E.and (zeG y4.coeff y5.coeff)
 rcases zac h with ⟨h10_, h⟩ | ⟨h10_, h⟩
 rotate_left
 rotate_left
 rcases zbj h1_ with b11_ | ⟨b11_, b12_⟩
 all_goals
  first | (cases h; refine E.l fun n k x => ?_) | refine E.c (ih _ h) fun n k x I => ?_
  intro e m i0 i1 i2 K R hK
  rw [zap]
  (conv => lhs; arg 4; whnf)
  first | (refine zt ?_; simp only [zhY] at hK; refine hK _ _ ?_; exact zs) | (refine zt ?_; refine zaf (I.1 _ _ ?_ ?_ ?_ _ _ hK); (iterate 3 exact zs)) | (refine zt ?_; simp only [zhY] at hK; refine hK _ _ ?_ ?_; (iterate 2 exact zs))
theorem zEj {kk : Nat} {a : (Sl zam)} {b : (Sl zam)} {sz : Nat} (hg : zPz sz) {r : Int} (h : zmR kk sz a b = some r) : Ev cfg 59 [(dSl zaq a), (dSl zaq b)] (.int .i64 r) := by
 unfold zmR at h
 have E := evT
 rcases zaw h with ⟨r15_, o14_, h⟩ | ⟨q7, o14_, h⟩
 obtain ⟨_, l13_, E⟩ := E.lp (zrx hg o14_)
 rotate_left
 obtain ⟨_, l16_, E⟩ := E.lp (zrx hg o14_)
 have E := E.and (zeG (a.l.length : Int) (b.l.length : Int))
 all_goals
  cases h
  refine E.s fun n x => ?_
  first | (have := l13_; refine zt ?_; refine zaf (l13_.1 n YJ _ _ ?_ ?_ ?_ _ _ ?_); (iterate 3 exact zs); simp only [zhY]; intro e m i0; exact zs) | (have := l16_; refine zt ?_; refine zaf (l16_.1 n YJ _ _ ?_ ?_ ?_ _ _ ?_); (iterate 3 exact zs); simp only [zhY]; intro e m i0 i1; exact zs)
theorem zqj : ∀ s : Nat, s < big -> zPz s := by
 intro s
 induction s with
 | zero => intro _; exact ⟨fun _ _ h => absurd h YJ, fun _ _ h => absurd h YJ, fun _ _ h => absurd h YJ, fun _ _ h => absurd h YJ⟩
 | succ s ih =>
   intro hb
   have hg := ih YJ
   exact ⟨
    fun a b h => zxF (sz := s) hg (ztO (kk := s + 1) (sz := s) YJ YJ YJ),
    fun a b h => ztF (sz := s) hg (zq3 (kk := s + 1) (sz := s) YJ YJ YJ),
    fun a b h => zwi (sz := s) hg (zsS (kk := s + 1) (sz := s) YJ YJ YJ),
    fun a b h => zEj (sz := s) hg (zy4 (kk := s + 1) (sz := s) YJ YJ YJ)⟩
theorem zjf (a b : zas) (h : zby a + zby b < big - 1) : Ev cfg 102 [(.agg (zbQ a)), (.agg (zbQ b))] (.int .i64 (zb3 a b)) := (zqj (big - 1) (by unfold big; omega)).1 a b h
theorem ztX (a : (Sl zaj)) (b : (Sl zaj)) (h : zaD a.l + zaD b.l < big - 1) : Ev cfg 100 [(dSl zaz a), (dSl zaz b)] (.int .i64 (zbF a b)) := (zqj (big - 1) (by unfold big; omega)).2.1 a b h
theorem zwM (a : (Sl zae)) (b : (Sl zae)) (h : zbb a.l + zbb b.l < big - 1) : Ev cfg 138 [(dSl zao a), (dSl zao b)] (.int .i64 (zcI a b)) := (zqj (big - 1) (by unfold big; omega)).2.2.1 a b h
theorem zEz (a : (Sl zam)) (b : (Sl zam)) (h : zak a.l + zak b.l < big - 1) : Ev cfg 59 [(dSl zaq a), (dSl zaq b)] (.int .i64 (zcR a b)) := (zqj (big - 1) (by unfold big; omega)).2.2.2 a b h
attribute [go_sem] func43 f43 func45 f45 func76 f76 func77 f77 func78 f78 func79 f79 func80 f80 func81 f81 func82 f82 func83 f83 func84 f84 func117 f117 func118 f118 func119 f119 func120 f120 func158 f158
theorem zAT {kk : Nat} {a : Int} {r : Bool} (h : zkS kk a = some r) : Ev cfg 117 [(.int .i64 a)] (.bool r) := by
 unfold zkS at h
 have E := evT
 cases h
 refine E.s fun n x => ?_
 exact zs
theorem zxJ {kk : Nat} {a : Int} {r : Bool} (h : zja kk a = some r) : Ev cfg 158 [(.int .i64 a)] (.bool r) := by
 unfold zja at h
 have E := evT
 cases h
 refine E.s fun n x => ?_
 exact zs
theorem zsZ (a : Int) : Ev cfg 117 [(.int .i64 a)] (.bool (zKh a)) := zAT (zwJ 0 a)
theorem zpP (a : Int) : Ev cfg 158 [(.int .i64 a)] (.bool (zKh a)) := zxJ (ztS 0 a)
theorem zxK {kk : Nat} {a b r : Int} (h : zjb kk a b = some r) : Ev cfg 79 [(.int .i64 a), (.int .i64 b)] (.int .i64 r) := by
 unfold zjb at h
 have E := evT
 have E := E.and (zsZ a)
 have E := E.and (zsZ b)
 rcases zac h with ⟨h1_, h⟩ | ⟨h1_, h⟩
 rcases zac h with ⟨h2_, h⟩ | ⟨h2_, h⟩
 rotate_left
 rotate_left
 rcases zac h with ⟨h3_, h⟩ | ⟨h3_, h⟩
 rotate_left
 rcases zac h with ⟨h4_, h⟩ | ⟨h4_, h⟩
 rotate_left
 rcases zac h with ⟨h5_, h⟩ | ⟨h5_, h⟩
 all_goals
  cases h
  refine E.s fun n x => ?_
  exact zs
theorem zuV {kk : Nat} {a b r : Int} (h : zjZ kk a b = some r) : Ev cfg 120 [(.int .i64 a), (.int .i64 b)] (.int .i64 r) := by
 unfold zjZ at h
 have E := evT
 have E := E.and (zpP a)
 have E := E.and (zpP b)
 rcases zac h with ⟨h1_, h⟩ | ⟨h1_, h⟩
 rcases zac h with ⟨h2_, h⟩ | ⟨h2_, h⟩
 rotate_left
 rotate_left
 rcases zac h with ⟨h3_, h⟩ | ⟨h3_, h⟩
 rotate_left
 rcases zac h with ⟨h4_, h⟩ | ⟨h4_, h⟩
 rotate_left
 rcases zac h with ⟨h5_, h⟩ | ⟨h5_, h⟩
 all_goals
  cases h
  refine E.s fun n x => ?_
  exact zs
theorem zef (a b : Int) : Ev cfg 79 [(.int .i64 a), (.int .i64 b)] (.int .i64 (zfR a b)) := zxK (zmt 0 a b)
theorem znR (a b : Int) : Ev cfg 120 [(.int .i64 a), (.int .i64 b)] (.int .i64 (zfR a b)) := zuV (zrO 0 a b)
def ziD (c1 : Sl Int) (c2 : Int) (K : YK) (R : YL) : Out (Int) (Int) -> Prop
 | .ret r => ∀ (e : Env) (m : Mem), e 2 = (.int .i64 r) -> K .ret ⟨e, m⟩ = R
 | .done q => ∀ (e : Env) (m : Mem), e 3 = (.int .i64 0) -> K (.exit 0) ⟨e, m⟩ = R
noncomputable def zBn : Code := za4 f78 [1, 1, 0, 1, 0, 0]
theorem zsM {c1 : Sl Int} {c2 : Int} {kk : Nat} : ∀ {k : Nat} {s3 : Int} {out : Out (Int) (Int)}, zel c1 c2 kk k s3 = some out -> ∃ N, ∀ n, N <= n -> ∀ k, N <= k -> ∀ (e : Env) (m : Mem), e 3 = (.int .i64 0) -> e 6 = (dSl (cI .i64) c1) -> e 7 = (.int .i64 c2) -> e 8 = (.int .i64 s3) -> ∀ (K : YK) (R : YL), ziD c1 c2 K R out -> zbU (zbt cfg (dfn cfg n) n zBn) K k ⟨e, m⟩ = R := by
 intro k
 induction k with
 | zero => intro s3 out h; cases h
 | succ k ih => ?_
 intro s3 out h
 have ih := fun x0 {out} => @ih x0 out
 unfold zel at h
 have E := evT
 rcases zac h with ⟨h1_, h⟩ | ⟨h1_, h⟩
 obtain ⟨y4, h2_, h⟩ := zaa h
 obtain ⟨_, h3_⟩ := zaA h2_
 have h3_ := zav h3_ (cI .i64)
 rcases zac h with ⟨h4_, h⟩ | ⟨h4_, h⟩
 all_goals
  first | (cases h; refine E.l fun n k x => ?_) | refine E.c (ih _ h) fun n k x I => ?_
  intro e m i0 i1 i2 i3 K R hK
  rw [zap]
  (conv => lhs; arg 4; whnf)
  first | (refine zt ?_; simp only [ziD] at hK; refine hK _ _ ?_; exact zs) | (refine zt ?_; refine zaf (I.1 _ _ ?_ ?_ ?_ ?_ _ _ hK); (iterate 4 exact zs)) | (refine zt ?_; simp only [ziD] at hK; refine hK _ _ ?_; exact zs)
theorem zGJ {kk : Nat} {a : (Sl Int)} {r : Int} (h : zoG kk a = some r) : Ev cfg 78 [(dSl (cI .i64) a)] (.int .i64 r) := by
 unfold zoG at h
 have E := evT
 rcases zaw h with ⟨r7_, o6_, h⟩ | ⟨q5, o6_, h⟩
 obtain ⟨_, l5_, E⟩ := E.lp (zsM o6_)
 rotate_left
 obtain ⟨_, l8_, E⟩ := E.lp (zsM o6_)
 all_goals
  cases h
  refine E.s fun n x => ?_
  first | (have := l5_; refine zt ?_; refine zaf (l5_.1 n YJ _ _ ?_ ?_ ?_ ?_ _ _ ?_); (iterate 4 exact zs); simp only [ziD]; intro e m i0; exact zs) | (have := l8_; refine zt ?_; refine zaf (l8_.1 n YJ _ _ ?_ ?_ ?_ ?_ _ _ ?_); (iterate 4 exact zs); simp only [ziD]; intro e m i0; exact zs)
theorem zl4 (a : (Sl Int)) (h : a.l.length < 100) : Ev cfg 78 [(dSl (cI .i64) a)] (.int .i64 (orL a)) := zGJ (zBd 0 a h)
theorem zAO {kk : Nat} {a b : Val} {r : Int} (h : zkO kk a b = some r) : Ev cfg 84 [(.agg (zd0 a)), (.agg (zd0 b))] (.int .i64 r) := by
 unfold zkO at h
 have E := evT
 have E := E.and (zef a.kind b.kind)
 have E := E.and (znR a.int b.int)
 have e1_ := zFw a.text b.text
 obtain ⟨_, h2_, h⟩ := zaa h
 have E := E.and (zl4 (Sl.of [(zfR a.kind b.kind), (zfR a.int b.int), (zH7 a.text b.text)]) (zah h2_))
 cases h
 refine E.s fun n x => ?_
 (try replace x := YM x)
 exact zs
theorem zsW (a b : Val) : Ev cfg 84 [(.agg (zd0 a)), (.agg (zd0 b))] (.int .i64 (zfd a b)) := zAO (zwC 0 a b)
abbrev zIs (sz : Nat) : Prop := (∀ (a : (Sl zam)) (b : (Sl zam)), 8 * (zak a.l + zak b.l) + 7 < sz -> Ev cfg 81 [(dSl zaq a), (dSl zaq b)] (.int .i64 (zcR a b))) /\ (∀ (a : (Sl zam)) (b : (Sl zam)), 8 * (zak a.l + zak b.l) + 6 < sz -> Ev cfg 118 [(dSl zaq a), (dSl zaq b), (.fn (.func 119) [] [])] (.int .i64 (zcR a b))) /\ (∀ (a b : zam), 8 * (zcH a + zcH b) + 5 < sz -> Ev cfg 119 [(.agg (zaq a)), (.agg (zaq b))] (.int .i64 (zfs a b))) /\ (∀ (a b : zam), 8 * (zcH a + zcH b) + 4 < sz -> Ev cfg 43 [(.agg (zaq a)), (.agg (zaq b))] (.int .i64 (ze4 a b))) /\ (∀ (a : (Sl zaj)) (b : (Sl zaj)), 8 * (zaD a.l + zaD b.l) + 7 < sz -> Ev cfg 76 [(dSl zaz a), (dSl zaz b), (.fn (.func 77) [] [])] (.int .i64 (zbF a b))) /\ (∀ (a b : zaj), 8 * (zc8 a + zc8 b) + 5 < sz -> Ev cfg 77 [(.agg (zaz a)), (.agg (zaz b))] (.int .i64 (zct a b))) /\ (∀ (a b : zas), 8 * (zby a + zby b) + 7 < sz -> Ev cfg 45 [(.agg (zbQ a)), (.agg (zbQ b))] (.int .i64 (zb3 a b))) /\ (∀ (a : (Sl (Sl zam))) (b : (Sl (Sl zam))), 8 * (zcw a.l + zcw b.l) + 6 < sz -> Ev cfg 80 [(dSl (cSl zaq) a), (dSl (cSl zaq) b), (.fn (.func 81) [] [])] (.int .i64 (zqJ a b))) /\ (∀ (a : (Sl zae)) (b : (Sl zae)), 8 * (zbb a.l + zbb b.l) + 6 < sz -> Ev cfg 82 [(dSl zao a), (dSl zao b), (.fn (.func 83) [] [])] (.int .i64 (zcI a b))) /\ (∀ (a b : zae), 8 * (zei a + zei b) + 5 < sz -> Ev cfg 83 [(.agg (zao a)), (.agg (zao b))] (.int .i64 (zcV a b)))
theorem ztJ {kk : Nat} {a : (Sl zam)} {b : (Sl zam)} {sz : Nat} (hg : zIs sz) {r : Int} (h : zha kk sz a b = some r) : Ev cfg 81 [(dSl zaq a), (dSl zaq b)] (.int .i64 r) := by
 have ⟨_, hCT, _, _, _, _, _, _, _, _⟩ := hg
 unfold zha at h
 have E := evT
 obtain ⟨_, h1_, h⟩ := zaa h
 have E := E.and (hCT a b (zah h1_))
 cases h
 refine E.s fun n x => ?_
 exact zs
def za2 (c1 c2 c3 : Sl zam) (c4 : Int) (K : YK) (R : YL) : Out (Int) (Int) -> Prop
 | .ret r => ∀ (e : Env) (m : Mem), e 6 = (.int .i64 r) -> K .ret ⟨e, m⟩ = R
 | .done q => ∀ (e : Env) (m : Mem), e 0 = (dSl zaq c1) -> e 1 = (dSl zaq c2) -> K (.exit 0) ⟨e, m⟩ = R
noncomputable def zfU : Code := za4 f118 [1, 0, 1, 0, 0]
theorem zcF {c1 c2 c3 : Sl zam} {c4 : Int} {sz : Nat} (hg : zIs sz) {kk : Nat} : ∀ {k : Nat} {s5 : Int} {out : Out (Int) (Int)}, zbu c1 c2 c3 c4 sz kk k s5 = some out -> ∃ N, ∀ n, N <= n -> ∀ k, N <= k -> ∀ (e : Env) (m : Mem), e 0 = (dSl zaq c1) -> e 1 = (dSl zaq c2) -> e 2 = (.fn (.func 119) [] []) -> e 11 = (dSl zaq c3) -> e 12 = (.int .i64 c4) -> e 13 = (.int .i64 s5) -> ∀ (K : YK) (R : YL), za2 c1 c2 c3 c4 K R out -> zbU (zbt cfg (dfn cfg n) n zfU) K k ⟨e, m⟩ = R := by
 have ⟨_, _, hC1, _, _, _, _, _, _, _⟩ := hg
 intro k
 induction k with
 | zero => intro s5 out h; cases h
 | succ k ih => ?_
 intro s5 out h
 have ih := fun x0 {out} => @ih x0 out
 unfold zbu at h
 have E := evT
 rcases zac h with ⟨h1_, h⟩ | ⟨h1_, h⟩
 obtain ⟨y6, h2_, h⟩ := zaa h
 obtain ⟨_, h3_⟩ := zaA h2_
 have h3_ := zav h3_ zaq
 rcases zac h with ⟨h4_, h⟩ | ⟨h4_, h⟩
 rotate_left
 obtain ⟨y7, h5_, h⟩ := zaa h
 obtain ⟨_, h6_⟩ := zaA h5_
 have h6_ := zav h6_ zaq
 obtain ⟨_, h7_, h⟩ := zaa h
 have E := E.and (hC1 y6 y7 (zah h7_))
 rcases zac h with ⟨h8_, h⟩ | ⟨h8_, h⟩
 all_goals
  first | (cases h; refine E.l fun n k x => ?_) | refine E.c (ih _ h) fun n k x I => ?_
  intro e m i0 i1 i2 i3 i4 i5 K R hK
  rw [zap]
  (conv => lhs; arg 4; whnf)
  first | (refine zt ?_; simp only [za2] at hK; refine hK _ _ ?_; exact zs) | (refine zt ?_; refine zaf (I.1 _ _ ?_ ?_ ?_ ?_ ?_ ?_ _ _ hK); (iterate 6 exact zs)) | (refine zt ?_; simp only [za2] at hK; refine hK _ _ ?_ ?_; (iterate 2 exact zs))
theorem zgi {kk : Nat} {a : (Sl zam)} {b : (Sl zam)} {sz : Nat} (hg : zIs sz) {r : Int} (h : zbA kk sz a b = some r) : Ev cfg 118 [(dSl zaq a), (dSl zaq b), (.fn (.func 119) [] [])] (.int .i64 r) := by
 unfold zbA at h
 have E := evT
 rcases zaw h with ⟨r11_, o10_, h⟩ | ⟨q9, o10_, h⟩
 obtain ⟨_, l9_, E⟩ := E.lp (zcF hg o10_)
 rotate_left
 obtain ⟨_, l12_, E⟩ := E.lp (zcF hg o10_)
 rcases zac h with ⟨h13_, h⟩ | ⟨h13_, h⟩
 all_goals
  cases h
  refine E.s fun n x => ?_
  first | (have := l9_; refine zt ?_; refine zaf (l9_.1 n YJ _ _ ?_ ?_ ?_ ?_ ?_ ?_ _ _ ?_); (iterate 6 exact zs); simp only [za2]; intro e m i0; exact zs) | (have := l12_; refine zt ?_; refine zaf (l12_.1 n YJ _ _ ?_ ?_ ?_ ?_ ?_ ?_ _ _ ?_); (iterate 6 exact zs); simp only [za2]; intro e m i0 i1; exact zs)
theorem zrG {kk : Nat} {a b : zam} {sz : Nat} (hg : zIs sz) {r : Int} (h : zgb kk sz a b = some r) : Ev cfg 119 [(.agg (zaq a)), (.agg (zaq b))] (.int .i64 r) := by
 have ⟨_, _, _, hL, _, _, _, _, _, _⟩ := hg
 unfold zgb at h
 have E := evT
 obtain ⟨_, h1_, h⟩ := zaa h
 have E := E.and (hL a b (zah h1_))
 have E := E.and (znR a.coeff b.coeff)
 obtain ⟨_, h2_, h⟩ := zaa h
 have E := E.and (zl4 (Sl.of [(ze4 a b), (zfR a.coeff b.coeff)]) (zah h2_))
 cases h
 refine E.s fun n x => ?_
 (try replace x := YM x)
 exact zs
theorem zoX {kk : Nat} {a b : zam} {sz : Nat} (hg : zIs sz) {r : Int} (h : zep kk sz a b = some r) : Ev cfg 43 [(.agg (zaq a)), (.agg (zaq b))] (.int .i64 r) := by
 have ⟨_, _, _, _, hCF, _, _, _, _, _⟩ := hg
 unfold zep at h
 have E := evT
 obtain ⟨_, h1_, h⟩ := zaa h
 have E := E.and (hCF a.factors b.factors (zah h1_))
 cases h
 refine E.s fun n x => ?_
 exact zs
def zaP (c1 c2 c3 : Sl zaj) (c4 : Int) (K : YK) (R : YL) : Out (Int) (Int) -> Prop
 | .ret r => ∀ (e : Env) (m : Mem), e 6 = (.int .i64 r) -> K .ret ⟨e, m⟩ = R
 | .done q => ∀ (e : Env) (m : Mem), e 0 = (dSl zaz c1) -> e 1 = (dSl zaz c2) -> K (.exit 0) ⟨e, m⟩ = R
noncomputable def zeh : Code := za4 f76 [1, 0, 1, 0, 0]
theorem zch {c1 c2 c3 : Sl zaj} {c4 : Int} {sz : Nat} (hg : zIs sz) {kk : Nat} : ∀ {k : Nat} {s5 : Int} {out : Out (Int) (Int)}, za9 c1 c2 c3 c4 sz kk k s5 = some out -> ∃ N, ∀ n, N <= n -> ∀ k, N <= k -> ∀ (e : Env) (m : Mem), e 0 = (dSl zaz c1) -> e 1 = (dSl zaz c2) -> e 2 = (.fn (.func 77) [] []) -> e 11 = (dSl zaz c3) -> e 12 = (.int .i64 c4) -> e 13 = (.int .i64 s5) -> ∀ (K : YK) (R : YL), zaP c1 c2 c3 c4 K R out -> zbU (zbt cfg (dfn cfg n) n zeh) K k ⟨e, m⟩ = R := by
 have ⟨_, _, _, _, _, hF, _, _, _, _⟩ := hg
 intro k
 induction k with
 | zero => intro s5 out h; cases h
 | succ k ih => ?_
 intro s5 out h
 have ih := fun x0 {out} => @ih x0 out
 unfold za9 at h
 have E := evT
 rcases zac h with ⟨h1_, h⟩ | ⟨h1_, h⟩
 obtain ⟨y6, h2_, h⟩ := zaa h
 obtain ⟨_, h3_⟩ := zaA h2_
 have h3_ := zav h3_ zaz
 rcases zac h with ⟨h4_, h⟩ | ⟨h4_, h⟩
 rotate_left
 obtain ⟨y7, h5_, h⟩ := zaa h
 obtain ⟨_, h6_⟩ := zaA h5_
 have h6_ := zav h6_ zaz
 obtain ⟨_, h7_, h⟩ := zaa h
 have E := E.and (hF y6 y7 (zah h7_))
 rcases zac h with ⟨h8_, h⟩ | ⟨h8_, h⟩
 all_goals
  first | (cases h; refine E.l fun n k x => ?_) | refine E.c (ih _ h) fun n k x I => ?_
  intro e m i0 i1 i2 i3 i4 i5 K R hK
  rw [zap]
  (conv => lhs; arg 4; whnf)
  first | (refine zt ?_; simp only [zaP] at hK; refine hK _ _ ?_; exact zs) | (refine zt ?_; refine zaf (I.1 _ _ ?_ ?_ ?_ ?_ ?_ ?_ _ _ hK); (iterate 6 exact zs)) | (refine zt ?_; simp only [zaP] at hK; refine hK _ _ ?_ ?_; (iterate 2 exact zs))
theorem zeJ {kk : Nat} {a : (Sl zaj)} {b : (Sl zaj)} {sz : Nat} (hg : zIs sz) {r : Int} (h : zbg kk sz a b = some r) : Ev cfg 76 [(dSl zaz a), (dSl zaz b), (.fn (.func 77) [] [])] (.int .i64 r) := by
 unfold zbg at h
 have E := evT
 rcases zaw h with ⟨r11_, o10_, h⟩ | ⟨q9, o10_, h⟩
 obtain ⟨_, l9_, E⟩ := E.lp (zch hg o10_)
 rotate_left
 obtain ⟨_, l12_, E⟩ := E.lp (zch hg o10_)
 rcases zac h with ⟨h13_, h⟩ | ⟨h13_, h⟩
 all_goals
  cases h
  refine E.s fun n x => ?_
  first | (have := l9_; refine zt ?_; refine zaf (l9_.1 n YJ _ _ ?_ ?_ ?_ ?_ ?_ ?_ _ _ ?_); (iterate 6 exact zs); simp only [zaP]; intro e m i0; exact zs) | (have := l12_; refine zt ?_; refine zaf (l12_.1 n YJ _ _ ?_ ?_ ?_ ?_ ?_ ?_ _ _ ?_); (iterate 6 exact zs); simp only [zaP]; intro e m i0 i1; exact zs)
theorem znz {kk : Nat} {a b : zaj} {sz : Nat} (hg : zIs sz) {r : Int} (h : zdN kk sz a b = some r) : Ev cfg 77 [(.agg (zaz a)), (.agg (zaz b))] (.int .i64 r) := by
 have ⟨_, _, _, _, _, _, hA, _, _, _⟩ := hg
 unfold zdN at h
 have E := evT
 obtain ⟨_, h1_, h⟩ := zaa h
 have E := E.and (hA a.atom b.atom (zah h1_))
 have E := E.and (zef a.exp b.exp)
 obtain ⟨_, h2_, h⟩ := zaa h
 have E := E.and (zl4 (Sl.of [(zb3 a.atom b.atom), (zfR a.exp b.exp)]) (zah h2_))
 cases h
 refine E.s fun n x => ?_
 (try replace x := YM x)
 exact zs
theorem zoZ {kk : Nat} {a b : zas} {sz : Nat} (hg : zIs sz) {r : Int} (h : zer kk sz a b = some r) : Ev cfg 45 [(.agg (zbQ a)), (.agg (zbQ b))] (.int .i64 r) := by
 have ⟨_, _, _, _, _, _, _, hCA, hCW, _⟩ := hg
 unfold zer at h
 have E := evT
 have E := E.and (zef a.kind b.kind)
 have E := E.and (zef a.row.table b.row.table)
 have E := E.and (zef a.row.seq b.row.seq)
 obtain ⟨_, h1_, h⟩ := zaa h
 have E := E.and (hCA a.args b.args (zah h1_))
 have E := E.and (zef a.func b.func)
 obtain ⟨_, h2_, h⟩ := zaa h
 have E := E.and (hCW a.items b.items (zah h2_))
 have E := E.and (zef a.op b.op)
 have E := E.and (zsW a.bound b.bound)
 obtain ⟨_, h3_, h⟩ := zaa h
 have E := E.and (zl4 (Sl.of [(zfR a.kind b.kind), (zfR a.row.table b.row.table), (zfR a.row.seq b.row.seq), (zqJ a.args b.args), (zfR a.func b.func), (zcI a.items b.items), (zfR a.op b.op), (zfd a.bound b.bound)]) (zah h3_))
 cases h
 refine E.s fun n x => ?_
 (try replace x := YM x)
 exact zs
def zaW (c1 : Sl (Sl zam)) (c2 : Sl (Sl zam)) (c3 : Sl (Sl zam)) (c4 : Int) (K : YK) (R : YL) : Out (Int) (Int) -> Prop
 | .ret r => ∀ (e : Env) (m : Mem), e 6 = (.int .i64 r) -> K .ret ⟨e, m⟩ = R
 | .done q => ∀ (e : Env) (m : Mem), e 0 = (dSl (cSl zaq) c1) -> e 1 = (dSl (cSl zaq) c2) -> K (.exit 0) ⟨e, m⟩ = R
noncomputable def zeS : Code := za4 f80 [1, 0, 1, 0, 0]
theorem zcq {c1 : Sl (Sl zam)} {c2 : Sl (Sl zam)} {c3 : Sl (Sl zam)} {c4 : Int} {sz : Nat} (hg : zIs sz) {kk : Nat} : ∀ {k : Nat} {s5 : Int} {out : Out (Int) (Int)}, zbh c1 c2 c3 c4 sz kk k s5 = some out -> ∃ N, ∀ n, N <= n -> ∀ k, N <= k -> ∀ (e : Env) (m : Mem), e 0 = (dSl (cSl zaq) c1) -> e 1 = (dSl (cSl zaq) c2) -> e 2 = (.fn (.func 81) [] []) -> e 11 = (dSl (cSl zaq) c3) -> e 12 = (.int .i64 c4) -> e 13 = (.int .i64 s5) -> ∀ (K : YK) (R : YL), zaW c1 c2 c3 c4 K R out -> zbU (zbt cfg (dfn cfg n) n zeS) K k ⟨e, m⟩ = R := by
 have ⟨hC, _, _, _, _, _, _, _, _, _⟩ := hg
 intro k
 induction k with
 | zero => intro s5 out h; cases h
 | succ k ih => ?_
 intro s5 out h
 have ih := fun x0 {out} => @ih x0 out
 unfold zbh at h
 have E := evT
 rcases zac h with ⟨h1_, h⟩ | ⟨h1_, h⟩
 obtain ⟨y6, h2_, h⟩ := zaa h
 obtain ⟨_, h3_⟩ := zaA h2_
 have h3_ := zav h3_ (cSl zaq)
 rcases zac h with ⟨h4_, h⟩ | ⟨h4_, h⟩
 rotate_left
 obtain ⟨y7, h5_, h⟩ := zaa h
 obtain ⟨_, h6_⟩ := zaA h5_
 have h6_ := zav h6_ (cSl zaq)
 obtain ⟨_, h7_, h⟩ := zaa h
 have E := E.and (hC y6 y7 (zah h7_))
 rcases zac h with ⟨h8_, h⟩ | ⟨h8_, h⟩
 all_goals
  first | (cases h; refine E.l fun n k x => ?_) | refine E.c (ih _ h) fun n k x I => ?_
  intro e m i0 i1 i2 i3 i4 i5 K R hK
  rw [zap]
  (conv => lhs; arg 4; whnf)
  first | (refine zt ?_; simp only [zaW] at hK; refine hK _ _ ?_; exact zs) | (refine zt ?_; refine zaf (I.1 _ _ ?_ ?_ ?_ ?_ ?_ ?_ _ _ hK); (iterate 6 exact zs)) | (refine zt ?_; simp only [zaW] at hK; refine hK _ _ ?_ ?_; (iterate 2 exact zs))
theorem zfx {kk : Nat} {a : (Sl (Sl zam))} {b : (Sl (Sl zam))} {sz : Nat} (hg : zIs sz) {r : Int} (h : zbs kk sz a b = some r) : Ev cfg 80 [(dSl (cSl zaq) a), (dSl (cSl zaq) b), (.fn (.func 81) [] [])] (.int .i64 r) := by
 unfold zbs at h
 have E := evT
 rcases zaw h with ⟨r11_, o10_, h⟩ | ⟨q9, o10_, h⟩
 obtain ⟨_, l9_, E⟩ := E.lp (zcq hg o10_)
 rotate_left
 obtain ⟨_, l12_, E⟩ := E.lp (zcq hg o10_)
 rcases zac h with ⟨h13_, h⟩ | ⟨h13_, h⟩
 all_goals
  cases h
  refine E.s fun n x => ?_
  first | (have := l9_; refine zt ?_; refine zaf (l9_.1 n YJ _ _ ?_ ?_ ?_ ?_ ?_ ?_ _ _ ?_); (iterate 6 exact zs); simp only [zaW]; intro e m i0; exact zs) | (have := l12_; refine zt ?_; refine zaf (l12_.1 n YJ _ _ ?_ ?_ ?_ ?_ ?_ ?_ _ _ ?_); (iterate 6 exact zs); simp only [zaW]; intro e m i0 i1; exact zs)
def zaO (c1 c2 c3 : Sl zae) (c4 : Int) (K : YK) (R : YL) : Out (Int) (Int) -> Prop
 | .ret r => ∀ (e : Env) (m : Mem), e 6 = (.int .i64 r) -> K .ret ⟨e, m⟩ = R
 | .done q => ∀ (e : Env) (m : Mem), e 0 = (dSl zao c1) -> e 1 = (dSl zao c2) -> K (.exit 0) ⟨e, m⟩ = R
noncomputable def zeg : Code := za4 f82 [1, 0, 1, 0, 0]
theorem zcg {c1 c2 c3 : Sl zae} {c4 : Int} {sz : Nat} (hg : zIs sz) {kk : Nat} : ∀ {k : Nat} {s5 : Int} {out : Out (Int) (Int)}, za8 c1 c2 c3 c4 sz kk k s5 = some out -> ∃ N, ∀ n, N <= n -> ∀ k, N <= k -> ∀ (e : Env) (m : Mem), e 0 = (dSl zao c1) -> e 1 = (dSl zao c2) -> e 2 = (.fn (.func 83) [] []) -> e 11 = (dSl zao c3) -> e 12 = (.int .i64 c4) -> e 13 = (.int .i64 s5) -> ∀ (K : YK) (R : YL), zaO c1 c2 c3 c4 K R out -> zbU (zbt cfg (dfn cfg n) n zeg) K k ⟨e, m⟩ = R := by
 have ⟨_, _, _, _, _, _, _, _, _, hI⟩ := hg
 intro k
 induction k with
 | zero => intro s5 out h; cases h
 | succ k ih => ?_
 intro s5 out h
 have ih := fun x0 {out} => @ih x0 out
 unfold za8 at h
 have E := evT
 rcases zac h with ⟨h1_, h⟩ | ⟨h1_, h⟩
 obtain ⟨y6, h2_, h⟩ := zaa h
 obtain ⟨_, h3_⟩ := zaA h2_
 have h3_ := zav h3_ zao
 rcases zac h with ⟨h4_, h⟩ | ⟨h4_, h⟩
 rotate_left
 obtain ⟨y7, h5_, h⟩ := zaa h
 obtain ⟨_, h6_⟩ := zaA h5_
 have h6_ := zav h6_ zao
 obtain ⟨_, h7_, h⟩ := zaa h
 have E := E.and (hI y6 y7 (zah h7_))
 rcases zac h with ⟨h8_, h⟩ | ⟨h8_, h⟩
 all_goals
  first | (cases h; refine E.l fun n k x => ?_) | refine E.c (ih _ h) fun n k x I => ?_
  intro e m i0 i1 i2 i3 i4 i5 K R hK
  rw [zap]
  (conv => lhs; arg 4; whnf)
  first | (refine zt ?_; simp only [zaO] at hK; refine hK _ _ ?_; exact zs) | (refine zt ?_; refine zaf (I.1 _ _ ?_ ?_ ?_ ?_ ?_ ?_ _ _ hK); (iterate 6 exact zs)) | (refine zt ?_; simp only [zaO] at hK; refine hK _ _ ?_ ?_; (iterate 2 exact zs))
theorem zeI {kk : Nat} {a : (Sl zae)} {b : (Sl zae)} {sz : Nat} (hg : zIs sz) {r : Int} (h : zbf kk sz a b = some r) : Ev cfg 82 [(dSl zao a), (dSl zao b), (.fn (.func 83) [] [])] (.int .i64 r) := by
 unfold zbf at h
 have E := evT
 rcases zaw h with ⟨r11_, o10_, h⟩ | ⟨q9, o10_, h⟩
 obtain ⟨_, l9_, E⟩ := E.lp (zcg hg o10_)
 rotate_left
 obtain ⟨_, l12_, E⟩ := E.lp (zcg hg o10_)
 rcases zac h with ⟨h13_, h⟩ | ⟨h13_, h⟩
 all_goals
  cases h
  refine E.s fun n x => ?_
  first | (have := l9_; refine zt ?_; refine zaf (l9_.1 n YJ _ _ ?_ ?_ ?_ ?_ ?_ ?_ _ _ ?_); (iterate 6 exact zs); simp only [zaO]; intro e m i0; exact zs) | (have := l12_; refine zt ?_; refine zaf (l12_.1 n YJ _ _ ?_ ?_ ?_ ?_ ?_ ?_ _ _ ?_); (iterate 6 exact zs); simp only [zaO]; intro e m i0 i1; exact zs)
theorem zoY {kk : Nat} {a b : zae} {sz : Nat} (hg : zIs sz) {r : Int} (h : zeq kk sz a b = some r) : Ev cfg 83 [(.agg (zao a)), (.agg (zao b))] (.int .i64 r) := by
 have ⟨hC, _, _, _, _, _, _, _, _, _⟩ := hg
 unfold zeq at h
 have E := evT
 have E := E.and (zsW a.value b.value)
 obtain ⟨_, h1_, h⟩ := zaa h
 have E := E.and (hC a.ann b.ann (zah h1_))
 obtain ⟨_, h2_, h⟩ := zaa h
 have E := E.and (zl4 (Sl.of [(zfd a.value b.value), (zcR a.ann b.ann)]) (zah h2_))
 cases h
 refine E.s fun n x => ?_
 (try replace x := YM x)
 exact zs
theorem zqM : ∀ s : Nat, s < big -> zIs s := by
 intro s
 induction s with
 | zero => intro _; exact ⟨fun _ _ h => absurd h YJ, fun _ _ h => absurd h YJ, fun _ _ h => absurd h YJ, fun _ _ h => absurd h YJ, fun _ _ h => absurd h YJ, fun _ _ h => absurd h YJ, fun _ _ h => absurd h YJ, fun _ _ h => absurd h YJ, fun _ _ h => absurd h YJ, fun _ _ h => absurd h YJ⟩
 | succ s ih =>
   intro hb
   have hg := ih YJ
   exact ⟨
    fun a b h => ztJ (sz := s) hg (zq9 (kk := s + 1) (sz := s) YJ YJ YJ),
    fun a b h => zgi (sz := s) hg (zfT (kk := s + 1) (sz := s) YJ YJ YJ),
    fun a b h => zrG (sz := s) hg (zpc (kk := s + 1) (sz := s) YJ YJ YJ),
    fun a b h => zoX (sz := s) hg (zmW (kk := s + 1) (sz := s) YJ YJ YJ),
    fun a b h => zeJ (sz := s) hg (zee (kk := s + 1) (sz := s) YJ YJ YJ),
    fun a b h => znz (sz := s) hg (zl3 (kk := s + 1) (sz := s) YJ YJ YJ),
    fun a b h => zoZ (sz := s) hg (zmY (kk := s + 1) (sz := s) YJ YJ YJ),
    fun a b h => zfx (sz := s) hg (zeO (kk := s + 1) (sz := s) YJ YJ YJ),
    fun a b h => zeI (sz := s) hg (zed (kk := s + 1) (sz := s) YJ YJ YJ),
    fun a b h => zoY (sz := s) hg (zmX (kk := s + 1) (sz := s) YJ YJ YJ)⟩
theorem zt1 (a : (Sl zam)) (b : (Sl zam)) (h : 8 * (zak a.l + zak b.l) + 7 < big - 1) : Ev cfg 81 [(dSl zaq a), (dSl zaq b)] (.int .i64 (zcR a b)) := (zqM (big - 1) (by unfold big; omega)).1 a b h
theorem zpe (a b : zam) (h : 8 * (zcH a + zcH b) + 4 < big - 1) : Ev cfg 43 [(.agg (zaq a)), (.agg (zaq b))] (.int .i64 (ze4 a b)) := (zqM (big - 1) (by unfold big; omega)).2.2.2.1 a b h
theorem zpg (a b : zas) (h : 8 * (zby a + zby b) + 7 < big - 1) : Ev cfg 45 [(.agg (zbQ a)), (.agg (zbQ b))] (.int .i64 (zb3 a b)) := (zqM (big - 1) (by unfold big; omega)).2.2.2.2.2.2.1 a b h
theorem zpf (a b : zae) (h : 8 * (zei a + zei b) + 5 < big - 1) : Ev cfg 83 [(.agg (zao a)), (.agg (zao b))] (.int .i64 (zcV a b)) := (zqM (big - 1) (by unfold big; omega)).2.2.2.2.2.2.2.2.2 a b h
attribute [go_sem] func19 f19 func44 f44 func51 f51 func70 f70 func71 f71 func87 f87 func89 f89 func90 f90 func132 f132 func133 f133 func134 f134 func135 f135 func136 f136
theorem zBR {kk : Nat} {a : zbZ} {r : Bool} (h : zo7 kk a = some r) : Ev cfg 87 [(.agg (zev a))] (.bool r) := by
 unfold zo7 at h
 have E := evT
 rcases yG ((decide (1 <= a.table))) with h1_ | h1_
 all_goals
  cases h
  refine E.s fun n x => ?_
  exact zs
theorem zut (a : zbZ) : Ev cfg 87 [(.agg (zev a))] (.bool (zdY a)) := zBR (zxW 0 a)
theorem zEf {kk : Nat} {a : Val} {r : Bool} (h : zmN kk a = some r) : Ev cfg 19 [(.agg (zd0 a))] (.bool r) := by
 unfold zmN at h
 have E := evT
 rcases zac h with ⟨h1_, h⟩ | ⟨h1_, h⟩
 rotate_left
 rcases zac h with ⟨h2_, h⟩ | ⟨h2_, h⟩
 rcases yG ((a.int == 0)) with h3_ | h3_
 rotate_left
 rotate_left
 rcases zac h with ⟨h4_, h⟩ | ⟨h4_, h⟩
 rcases yG ((a.int == 0)) with h5_ | h5_
 rotate_left
 rcases yG ((a.int == 1)) with h6_ | h6_
 all_goals
  cases h
  refine E.s fun n x => ?_
  exact zs
theorem zje (a : Val) : Ev cfg 19 [(.agg (zd0 a))] (.bool (zaE a)) := zEf (zy0 0 a)
theorem zIp {kk : Nat} {a : Val} {r : Bool} (h : zq4 kk a = some r) : Ev cfg 51 [(.agg (zd0 a))] (.bool r) := by
 unfold zq4 at h
 have E := evT
 rcases zac h with ⟨h1_, h⟩ | ⟨h1_, h⟩
 rotate_left
 rcases zac h with ⟨h2_, h⟩ | ⟨h2_, h⟩
 rcases yG ((a.int == 0)) with h3_ | h3_
 rotate_left
 rotate_left
 rcases zac h with ⟨h4_, h⟩ | ⟨h4_, h⟩
 rcases yG ((a.text == [])) with h5_ | h5_
 rcases yG ((a.int == 0)) with h6_ | h6_
 rotate_left
 rotate_left
 rcases yG ((a.int == 0)) with h7_ | h7_
 all_goals
  cases h
  refine E.s fun n x => ?_
  exact zs
theorem znQ (a : Val) : Ev cfg 51 [(.agg (zd0 a))] (.bool (zaE a)) := zIp (zB4 0 a)
theorem zIm {kk : Nat} {a : zas} {r : Bool} (h : zu3 kk a = some r) : Ev cfg 134 [(.agg (zbQ a))] (.bool r) := by
 unfold zu3 at h
 have E := evT
 rcases yG ((a.func == 0)) with h1_ | h1_
 rcases yG (((a.items.l.length : Int) == 0)) with h2_ | h2_
 rcases yG ((a.op == 0)) with h3_ | h3_
 all_goals
  cases h
  refine E.s fun n x => ?_
  exact zs
theorem zra (a : zas) : Ev cfg 134 [(.agg (zbQ a))] (.bool (zk0 a)) := zIm (zB1 0 a)
theorem zGE {kk : Nat} {a : (Sl zam)} {r : Bool} (h : zoB kk a = some r) : Ev cfg 136 [(dSl zaq a)] (.bool r) := by
 unfold zoB at h
 have E := evT
 rcases zac h with ⟨h1_, h⟩ | ⟨h1_, h⟩
 obtain ⟨y1, h2_, h⟩ := zaa h
 have h2_ := zav h2_ zaq
 rcases zac h with ⟨h3_, h⟩ | ⟨h3_, h⟩
 rcases zac h with ⟨h4_, h⟩ | ⟨h4_, h⟩
 obtain ⟨y2, h5_, h⟩ := zaa h
 have h5_ := zav h5_ zaz
 rcases zac h with ⟨h6_, h⟩ | ⟨h6_, h⟩
 all_goals
  cases h
  refine E.s fun n x => ?_
  exact zs
theorem zyG (a : (Sl zam)) : Ev cfg 136 [(dSl zaq a)] (.bool (zmd a)) := zGE (zA8 0 a)
theorem zqR {kk : Nat} {a : zas} {r : Bool} (h : zhN kk a = some r) : Ev cfg 44 [(.agg (zbQ a))] (.bool r) := by
 unfold zhN at h
 have E := evT
 rcases yG ((a.kind == 3)) with h1_ | h1_
 all_goals
  cases h
  refine E.s fun n x => ?_
  exact zs
theorem zkV (a : zas) : Ev cfg 44 [(.agg (zbQ a))] (.bool (zxo a)) := zqR (zn3 0 a)
theorem zqQ {kk : Nat} {a : (Sl zam)} {r : Bool} (h : zfE kk a = some r) : Ev cfg 89 [(dSl zaq a)] (.bool r) := by
 unfold zfE at h
 have E := evT
 rcases zac h with ⟨h1_, h⟩ | ⟨h1_, h⟩
 obtain ⟨y1, h2_, h⟩ := zaa h
 have h2_ := zav h2_ zaq
 all_goals
  cases h
  refine E.s fun n x => ?_
  exact zs
theorem zrd (a : (Sl zam)) : Ev cfg 89 [(dSl zaq a)] (.bool (zit a)) := zqQ (zn2 0 a)
theorem zuX {kk : Nat} {a : (Sl zam)} {r : Bool} (h : zhM kk a = some r) : Ev cfg 90 [(dSl zaq a)] (.bool r) := by
 unfold zhM at h
 have E := evT
 rcases zac h with ⟨h1_, h⟩ | ⟨h1_, h⟩
 have b2_ := zan h1_
 obtain ⟨y1, h3_, h⟩ := zaa h
 have h3_ := zav h3_ zaq
 rcases zac h with ⟨h4_, h⟩ | ⟨h4_, h⟩
 have b5_ := zan h4_
 rcases zac h with ⟨h6_, h⟩ | ⟨h6_, h⟩
 rotate_left
 obtain ⟨y2, h7_, h⟩ := zaa h
 have h7_ := zav h7_ zaz
 have E := E.and (zkV y2.atom)
 rcases yG ((y2.exp == 1)) with h8_ | h8_
 rcases yG ((y2.atom.kind == 2)) with h9_ | h9_
 rotate_left
 rotate_left
 rcases yG ((y2.atom.kind == 2)) with h10_ | h10_
 rotate_left
 rotate_left
 have b11_ := zal h4_
 rotate_left
 have b12_ := zal h1_
 all_goals
  cases h
  refine E.s fun n x => ?_
  exact zs
theorem zu9 (a : (Sl zam)) : Ev cfg 90 [(dSl zaq a)] (.bool (zsh a)) := zuX (zrQ 0 a)
def zhh (c1 : Sl zam) (K : YK) (R : YL) : Out (Bool) (Int) -> Prop
 | .ret r => ∀ (e : Env) (m : Mem), e 2 = (.bool r) -> K .ret ⟨e, m⟩ = R
 | .done q => ∀ (e : Env) (m : Mem), K (.exit 0) ⟨e, m⟩ = R
noncomputable def zx7 : Code := za4 f135 [1, 0, 1, 0, 0]
theorem zpK {c1 : Sl zam} {kk : Nat} : ∀ {k : Nat} {s2 : Int} {out : Out (Bool) (Int)}, ze7 c1 kk k s2 = some out -> ∃ N, ∀ n, N <= n -> ∀ k, N <= k -> ∀ (e : Env) (m : Mem), e 0 = (dSl zaq c1) -> e 3 = (.int .i64 s2) -> ∀ (K : YK) (R : YL), zhh c1 K R out -> zbU (zbt cfg (dfn cfg n) n zx7) K k ⟨e, m⟩ = R := by
 intro k
 induction k with
 | zero => intro s2 out h; cases h
 | succ k ih => ?_
 intro s2 out h
 have ih := fun x0 {out} => @ih x0 out
 unfold ze7 at h
 have E := evT
 rcases zac h with ⟨h1_, h⟩ | ⟨h1_, h⟩
 obtain ⟨y3, h2_, h⟩ := zaa h
 obtain ⟨_, h3_⟩ := zaA h2_
 have h3_ := zav h3_ zaq
 rcases zac h with ⟨h4_, h⟩ | ⟨h4_, h⟩
 all_goals
  first | (cases h; refine E.l fun n k x => ?_) | refine E.c (ih _ h) fun n k x I => ?_
  intro e m i0 i1 K R hK
  rw [zap]
  (conv => lhs; arg 4; whnf)
  first | (refine zt ?_; simp only [zhh] at hK; refine hK _ _ ?_; exact zs) | (refine zt ?_; refine zaf (I.1 _ _ ?_ ?_ _ _ hK); (iterate 2 exact zs)) | (refine zt ?_; simp only [zhh] at hK; refine hK _ _)
theorem zBU {kk : Nat} {a : (Sl zam)} {r : Bool} (h : zlD kk a = some r) : Ev cfg 135 [(dSl zaq a)] (.bool r) := by
 unfold zlD at h
 have E := evT
 rcases zaw h with ⟨r7_, o6_, h⟩ | ⟨q4, o6_, h⟩
 obtain ⟨_, l5_, E⟩ := E.lp (zpK o6_)
 rotate_left
 obtain ⟨_, l8_, E⟩ := E.lp (zpK o6_)
 all_goals
  cases h
  refine E.s fun n x => ?_
  first | (have := l5_; refine zt ?_; refine zaf (l5_.1 n YJ _ _ ?_ ?_ _ _ ?_); (iterate 2 exact zs); simp only [zhh]; intro e m i0; exact zs) | (have := l8_; refine zt ?_; refine zaf (l8_.1 n YJ _ _ ?_ ?_ _ _ ?_); (iterate 2 exact zs); simp only [zhh]; intro e m; exact zs)
theorem zuu (a : Sl zam) (h : a.l.length < big - 1) : Ev cfg 135 [(dSl zaq a)] (.bool (zeu a)) := zBU (zxY (kk := big) a h YJ)
def zg2 (c29 : Sl zam) (c30 c31 : Int) (c32 : Sl zaj) (c33 c34 : Int) (c35 : Sl zae) (c36 : Int) (K : YK) (R : YL) : Out (Int) (Int × Int) -> Prop
 | .ret r => ∀ (e : Env) (m : Mem), e 2 = (.int .i64 r) -> K .ret ⟨e, m⟩ = R
 | .done q => ∀ (e : Env) (m : Mem), e 3 = (.int .i64 q.1) -> e 12 = (dSl zaq c29) -> e 13 = (.int .i64 c30) -> e 14 = (.int .i64 c31) -> e 25 = (dSl zaz c32) -> e 26 = (.int .i64 c33) -> e 27 = (.int .i64 c34) -> K (.exit 6) ⟨e, m⟩ = R
noncomputable def zt7 : Code := za4 f71 [1, 1, 0, 1, 0, 0, 1, 1, 0, 0, 1, 1, 1, 0, 0, 1, 1, 0, 0, 1, 1, 1, 0, 0]
abbrev zSZ (sz : Nat) : Prop := (∀ (a : (Sl zam)), zak a.l < sz -> Ev cfg 71 [(dSl zaq a)] (.int .i64 (zmA a)))
theorem zmp {c29 : Sl zam} {c30 c31 : Int} {c32 : Sl zaj} {c33 c34 : Int} {c35 : Sl zae} {c36 : Int} {sz : Nat} (hg : zSZ sz) {kk : Nat} : ∀ {k : Nat} {s28 s37 : Int} {out : Out (Int) (Int × Int)}, zcM c29 c30 c31 c32 c33 c34 c35 c36 sz kk k s28 s37 = some out -> ∃ N, ∀ n, N <= n -> ∀ k, N <= k -> ∀ (e : Env) (m : Mem), e 3 = (.int .i64 s28) -> e 12 = (dSl zaq c29) -> e 13 = (.int .i64 c30) -> e 14 = (.int .i64 c31) -> e 25 = (dSl zaz c32) -> e 26 = (.int .i64 c33) -> e 27 = (.int .i64 c34) -> e 46 = (dSl zao c35) -> e 47 = (.int .i64 c36) -> e 48 = (.int .i64 s37) -> ∀ (K : YK) (R : YL), zg2 c29 c30 c31 c32 c33 c34 c35 c36 K R out -> zbU (zbt cfg (dfn cfg n) n zt7) K k ⟨e, m⟩ = R := by
 have hS := hg
 intro k
 induction k with
 | zero => intro s28 s37 out h; cases h
 | succ k ih => ?_
 intro s28 s37 out h
 have ih := fun x0 x1 {out} => @ih x0 x1 out
 unfold zcM at h
 have E := evT
 rcases zac h with ⟨h1_, h⟩ | ⟨h1_, h⟩
 obtain ⟨y38, h2_, h⟩ := zaa h
 obtain ⟨_, h3_⟩ := zaA h2_
 have h3_ := zav h3_ zao
 obtain ⟨_, h4_, h⟩ := zaa h
 have E := E.and (hS y38.ann (zah h4_))
 all_goals
  first | (cases h; refine E.l fun n k x => ?_) | refine E.c (ih _ _ h) fun n k x I => ?_
  intro e m i0 i1 i2 i3 i4 i5 i6 i7 i8 i9 K R hK
  rw [zap]
  (conv => lhs; arg 4; whnf)
  first | (refine zt ?_; refine zaf (I.1 _ _ ?_ ?_ ?_ ?_ ?_ ?_ ?_ ?_ ?_ ?_ _ _ hK); (iterate 10 exact zs)) | (refine zt ?_; simp only [zg2] at hK; refine hK _ _ ?_ ?_ ?_ ?_ ?_ ?_ ?_; (iterate 7 exact zs))
def zg3 (c15 : Sl zam) (c16 c17 : Int) (c18 : Sl zaj) (c19 c20 : Int) (c21 : Sl (Sl zam)) (c22 : Int) (c24 : zaj) (K : YK) (R : YL) : Out (Int) (Int × Int) -> Prop
 | .ret r => ∀ (e : Env) (m : Mem), e 2 = (.int .i64 r) -> K .ret ⟨e, m⟩ = R
 | .done q => ∀ (e : Env) (m : Mem), e 3 = (.int .i64 q.1) -> zb9 (e 7) m 7 11 (zaz c24) -> e 12 = (dSl zaq c15) -> e 13 = (.int .i64 c16) -> e 14 = (.int .i64 c17) -> e 25 = (dSl zaz c18) -> e 26 = (.int .i64 c19) -> e 27 = (.int .i64 c20) -> K (.exit 4) ⟨e, m⟩ = R
noncomputable def zt8 : Code := za4 f71 [1, 1, 0, 1, 0, 0, 1, 1, 0, 0, 1, 1, 1, 0, 0, 1, 1, 0, 0, 1, 0, 1, 0, 0]
theorem zmq {c15 : Sl zam} {c16 c17 : Int} {c18 : Sl zaj} {c19 c20 : Int} {c21 : Sl (Sl zam)} {c22 : Int} {c24 : zaj} {sz : Nat} (hg : zSZ sz) {kk : Nat} : ∀ {k : Nat} {s14 s23 : Int} {out : Out (Int) (Int × Int)}, zcN c15 c16 c17 c18 c19 c20 c21 c22 c24 sz kk k s14 s23 = some out -> ∃ N, ∀ n, N <= n -> ∀ k, N <= k -> ∀ (e : Env) (m : Mem), e 3 = (.int .i64 s14) -> zb9 (e 7) m 7 11 (zaz c24) -> e 12 = (dSl zaq c15) -> e 13 = (.int .i64 c16) -> e 14 = (.int .i64 c17) -> e 25 = (dSl zaz c18) -> e 26 = (.int .i64 c19) -> e 27 = (.int .i64 c20) -> e 33 = (dSl (cSl zaq) c21) -> e 34 = (.int .i64 c22) -> e 35 = (.int .i64 s23) -> ∀ (K : YK) (R : YL), zg3 c15 c16 c17 c18 c19 c20 c21 c22 c24 K R out -> zbU (zbt cfg (dfn cfg n) n zt8) K k ⟨e, m⟩ = R := by
 have hS := hg
 intro k
 induction k with
 | zero => intro s14 s23 out h; cases h
 | succ k ih => ?_
 intro s14 s23 out h
 have ih := fun x0 x1 {out} => @ih x0 x1 out
 unfold zcN at h
 have E := evT
 rcases zac h with ⟨h5_, h⟩ | ⟨h5_, h⟩
 obtain ⟨y25, h6_, h⟩ := zaa h
 obtain ⟨_, h7_⟩ := zaA h6_
 have h7_ := zav h7_ (cSl zaq)
 obtain ⟨_, h8_, h⟩ := zaa h
 have E := E.and (hS y25 (zah h8_))
 all_goals
  first | (cases h; refine E.l fun n k x => ?_) | refine E.c (ih _ _ h) fun n k x I => ?_
  intro e m i0 i1 i2 i3 i4 i5 i6 i7 i8 i9 i10 K R hK
  obtain ⟨_, _, _⟩ := i1
  rw [zap]
  (conv => lhs; arg 4; whnf)
  first | (refine zt ?_; refine zaf (I.1 _ _ ?_ ?_ ?_ ?_ ?_ ?_ ?_ ?_ ?_ ?_ ?_ _ _ hK); (iterate 11 exact zs)) | (refine zt ?_; simp only [zg3] at hK; refine hK _ _ ?_ ?_ ?_ ?_ ?_ ?_ ?_ ?_; (iterate 8 exact zs))
def zdO (c7 : Sl zam) (c8 c9 : Int) (c10 : Sl zaj) (c11 : Int) (K : YK) (R : YL) : Out (Int) (Int × Int) -> Prop
 | .ret r => ∀ (e : Env) (m : Mem), e 2 = (.int .i64 r) -> K .ret ⟨e, m⟩ = R
 | .done q => ∀ (e : Env) (m : Mem), e 3 = (.int .i64 q.1) -> e 12 = (dSl zaq c7) -> e 13 = (.int .i64 c8) -> e 14 = (.int .i64 c9) -> K (.exit 2) ⟨e, m⟩ = R
noncomputable def zt9 : Code := za4 f71 [1, 1, 0, 1, 0, 0, 1, 1, 0, 0, 1, 1, 1, 0, 0]
theorem zmr {c7 : Sl zam} {c8 c9 : Int} {c10 : Sl zaj} {c11 : Int} {sz : Nat} (hg : zSZ sz) {kk : Nat} : ∀ {k : Nat} {s6 s12 : Int} {out : Out (Int) (Int × Int)}, zcO c7 c8 c9 c10 c11 sz kk k s6 s12 = some out -> ∃ N, ∀ n, N <= n -> ∀ k, N <= k -> ∀ (e : Env) (m : Mem), e 3 = (.int .i64 s6) -> e 12 = (dSl zaq c7) -> e 13 = (.int .i64 c8) -> e 14 = (.int .i64 c9) -> e 25 = (dSl zaz c10) -> e 26 = (.int .i64 c11) -> e 27 = (.int .i64 s12) -> ∀ (K : YK) (R : YL), zdO c7 c8 c9 c10 c11 K R out -> zbU (zbt cfg (dfn cfg n) n zt9) K k ⟨e, m⟩ = R := by
 intro k
 induction k with
 | zero => intro s6 s12 out h; cases h
 | succ k ih => ?_
 intro s6 s12 out h
 have ih := fun x0 x1 {out} => @ih x0 x1 out
 unfold zcO at h
 have E := evT
 rcases zac h with ⟨h9_, h⟩ | ⟨h9_, h⟩
 obtain ⟨y13, h10_, h⟩ := zaa h
 obtain ⟨_, h11_⟩ := zaA h10_
 have h11_ := zav h11_ zaz
 rcases zaw h with ⟨r14_, o13_, h⟩ | ⟨q27, o13_, h⟩
 obtain ⟨_, l12_, E⟩ := E.lp (zmq hg o13_)
 rotate_left
 obtain ⟨_, l15_, E⟩ := E.lp (zmq hg o13_)
 rcases zaw h with ⟨r18_, o17_, h⟩ | ⟨q40, o17_, h⟩
 obtain ⟨_, l16_, E⟩ := E.lp (zmp hg o17_)
 rotate_left
 obtain ⟨_, l19_, E⟩ := E.lp (zmp hg o17_)
 all_goals
  first | (cases h; refine E.l fun n k x => ?_) | refine E.c (ih _ _ h) fun n k x I => ?_
  intro e m i0 i1 i2 i3 i4 i5 i6 K R hK
  rw [zap]
  (conv => lhs; arg 4; whnf)
  first | (have := l12_; refine zt ?_; refine zaf (l12_.1 n YJ _ _ ?_ ?_ ?_ ?_ ?_ ?_ ?_ ?_ ?_ ?_ ?_ _ _ ?_); (iterate 11 exact zs); simp only [zg3]; intro e m i0; (try refine zt ?_); simp only [zdO] at hK; refine hK _ _ ?_; exact zs) | (have := l15_; refine zt ?_; refine zaf (l15_.1 n YJ _ _ ?_ ?_ ?_ ?_ ?_ ?_ ?_ ?_ ?_ ?_ ?_ _ _ ?_); (iterate 11 exact zs); simp only [zg3]; intro e m i0 i1 i2 i3 i4 i5 i6 i7; obtain ⟨_, _, _⟩ := i1; (first | (have := l16_; (try refine zt ?_); refine zaf (l16_.1 n YJ _ _ ?_ ?_ ?_ ?_ ?_ ?_ ?_ ?_ ?_ ?_ _ _ ?_); (iterate 10 exact zs); simp only [zg2]; intro e m i0; (try refine zt ?_); simp only [zdO] at hK; refine hK _ _ ?_; exact zs) | (have := l19_; (try refine zt ?_); refine zaf (l19_.1 n YJ _ _ ?_ ?_ ?_ ?_ ?_ ?_ ?_ ?_ ?_ ?_ _ _ ?_); (iterate 10 exact zs); simp only [zg2]; intro e m i0 i1 i2 i3 i4 i5 i6; (try refine zt ?_); refine zaf (I.1 _ _ ?_ ?_ ?_ ?_ ?_ ?_ ?_ _ _ hK); (iterate 7 exact zs)))) | ((try refine zt ?_); simp only [zdO] at hK; refine hK _ _ ?_ ?_ ?_ ?_; (iterate 4 exact zs))
def zfi (c2 : Sl zam) (c3 : Int) (K : YK) (R : YL) : Out (Int) (Int × Int) -> Prop
 | .ret r => ∀ (e : Env) (m : Mem), e 2 = (.int .i64 r) -> K .ret ⟨e, m⟩ = R
 | .done q => ∀ (e : Env) (m : Mem), e 3 = (.int .i64 q.1) -> K (.exit 0) ⟨e, m⟩ = R
noncomputable def zua : Code := za4 f71 [1, 1, 0, 1, 0, 0]
theorem zms {c2 : Sl zam} {c3 : Int} {sz : Nat} (hg : zSZ sz) {kk : Nat} : ∀ {k : Nat} {s1 s4 : Int} {out : Out (Int) (Int × Int)}, zcP c2 c3 sz kk k s1 s4 = some out -> ∃ N, ∀ n, N <= n -> ∀ k, N <= k -> ∀ (e : Env) (m : Mem), e 3 = (.int .i64 s1) -> e 12 = (dSl zaq c2) -> e 13 = (.int .i64 c3) -> e 14 = (.int .i64 s4) -> ∀ (K : YK) (R : YL), zfi c2 c3 K R out -> zbU (zbt cfg (dfn cfg n) n zua) K k ⟨e, m⟩ = R := by
 intro k
 induction k with
 | zero => intro s1 s4 out h; cases h
 | succ k ih => ?_
 intro s1 s4 out h
 have ih := fun x0 x1 {out} => @ih x0 x1 out
 unfold zcP at h
 have E := evT
 rcases zac h with ⟨h20_, h⟩ | ⟨h20_, h⟩
 obtain ⟨y5, h21_, h⟩ := zaa h
 obtain ⟨_, h22_⟩ := zaA h21_
 have h22_ := zav h22_ zaq
 rcases zaw h with ⟨r25_, o24_, h⟩ | ⟨q41, o24_, h⟩
 obtain ⟨_, l23_, E⟩ := E.lp (zmr hg o24_)
 rotate_left
 obtain ⟨_, l26_, E⟩ := E.lp (zmr hg o24_)
 all_goals
  first | (cases h; refine E.l fun n k x => ?_) | refine E.c (ih _ _ h) fun n k x I => ?_
  intro e m i0 i1 i2 i3 K R hK
  rw [zap]
  (conv => lhs; arg 4; whnf)
  first | (have := l23_; refine zt ?_; refine zaf (l23_.1 n YJ _ _ ?_ ?_ ?_ ?_ ?_ ?_ ?_ _ _ ?_); (iterate 7 exact zs); simp only [zdO]; intro e m i0; (try refine zt ?_); simp only [zfi] at hK; refine hK _ _ ?_; exact zs) | (have := l26_; refine zt ?_; refine zaf (l26_.1 n YJ _ _ ?_ ?_ ?_ ?_ ?_ ?_ ?_ _ _ ?_); (iterate 7 exact zs); simp only [zdO]; intro e m i0 i1 i2 i3; (try refine zt ?_); refine zaf (I.1 _ _ ?_ ?_ ?_ ?_ _ _ hK); (iterate 4 exact zs)) | ((try refine zt ?_); simp only [zfi] at hK; refine hK _ _ ?_; exact zs)
theorem zxM {kk : Nat} {a : (Sl zam)} {sz : Nat} (hg : zSZ sz) {r : Int} (h : zjd kk sz a = some r) : Ev cfg 71 [(dSl zaq a)] (.int .i64 r) := by
 unfold zjd at h
 have E := evT
 rcases zaw h with ⟨r29_, o28_, h⟩ | ⟨q42, o28_, h⟩
 obtain ⟨_, l27_, E⟩ := E.lp (zms hg o28_)
 rotate_left
 obtain ⟨_, l30_, E⟩ := E.lp (zms hg o28_)
 all_goals
  cases h
  refine E.s fun n x => ?_
  first | (have := l27_; refine zt ?_; refine zaf (l27_.1 n YJ _ _ ?_ ?_ ?_ ?_ _ _ ?_); (iterate 4 exact zs); simp only [zfi]; intro e m i0; exact zs) | (have := l30_; refine zt ?_; refine zaf (l30_.1 n YJ _ _ ?_ ?_ ?_ ?_ _ _ ?_); (iterate 4 exact zs); simp only [zfi]; intro e m i0; exact zs)
theorem zuR : ∀ s : Nat, s < big -> zSZ s := by
 intro s
 induction s with
 | zero => intro _; exact fun _ h => absurd h YJ
 | succ s ih =>
   intro hb
   have hg := ih YJ
   exact
    fun a h => zxM (sz := s) hg (ztU (kk := s + 1) (sz := s) YJ YJ YJ)
theorem zx5 (a : (Sl zam)) (h : zak a.l < big - 1) : Ev cfg 71 [(dSl zaq a)] (.int .i64 (zmA a)) := (zuR (big - 1) (by unfold big; omega)) a h
def zfy (c29 : Int) (c31 : Sl zam) (c32 c33 : Int) (c34 : Sl zaj) (c35 c36 : Int) (c37 : Sl zae) (c38 : Int) (K : YK) (R : YL) : Out (Int) (Int × Int) -> Prop
 | .ret r => ∀ (e : Env) (m : Mem), e 2 = (.int .i64 r) -> K .ret ⟨e, m⟩ = R
 | .done q => ∀ (e : Env) (m : Mem), e 3 = (.int .i64 c29) -> e 8 = (.int .i64 q.1) -> e 13 = (dSl zaq c31) -> e 14 = (.int .i64 c32) -> e 15 = (.int .i64 c33) -> e 20 = (dSl zaz c34) -> e 21 = (.int .i64 c35) -> e 22 = (.int .i64 c36) -> K (.exit 6) ⟨e, m⟩ = R
noncomputable def zrf : Code := za4 f70 [1, 1, 0, 1, 0, 0, 1, 1, 0, 0, 1, 1, 0, 0, 1, 1, 0, 0, 1, 1, 1, 1, 0, 1, 0, 0]
abbrev zSY (sz : Nat) : Prop := (∀ (a : (Sl zam)), zak a.l < sz -> Ev cfg 70 [(dSl zaq a)] (.int .i64 (zkh a)))
theorem zky {c29 : Int} {c31 : Sl zam} {c32 c33 : Int} {c34 : Sl zaj} {c35 c36 : Int} {c37 : Sl zae} {c38 : Int} {sz : Nat} (hg : zSY sz) {kk : Nat} : ∀ {k : Nat} {s30 s39 : Int} {out : Out (Int) (Int × Int)}, zcb c29 c31 c32 c33 c34 c35 c36 c37 c38 sz kk k s30 s39 = some out -> ∃ N, ∀ n, N <= n -> ∀ k, N <= k -> ∀ (e : Env) (m : Mem), e 3 = (.int .i64 c29) -> e 8 = (.int .i64 s30) -> e 13 = (dSl zaq c31) -> e 14 = (.int .i64 c32) -> e 15 = (.int .i64 c33) -> e 20 = (dSl zaz c34) -> e 21 = (.int .i64 c35) -> e 22 = (.int .i64 c36) -> e 45 = (dSl zao c37) -> e 46 = (.int .i64 c38) -> e 47 = (.int .i64 s39) -> ∀ (K : YK) (R : YL), zfy c29 c31 c32 c33 c34 c35 c36 c37 c38 K R out -> zbU (zbt cfg (dfn cfg n) n zrf) K k ⟨e, m⟩ = R := by
 have hN := hg
 intro k
 induction k with
 | zero => intro s30 s39 out h; cases h
 | succ k ih => ?_
 intro s30 s39 out h
 have ih := fun x0 x1 {out} => @ih x0 x1 out
 unfold zcb at h
 have E := evT
 rcases zac h with ⟨h1_, h⟩ | ⟨h1_, h⟩
 obtain ⟨y40, h2_, h⟩ := zaa h
 obtain ⟨_, h3_⟩ := zaA h2_
 have h3_ := zav h3_ zao
 obtain ⟨_, h4_, h⟩ := zaa h
 have E := E.and (hN y40.ann (zah h4_))
 all_goals
  first | (cases h; refine E.l fun n k x => ?_) | refine E.c (ih _ _ h) fun n k x I => ?_
  intro e m i0 i1 i2 i3 i4 i5 i6 i7 i8 i9 i10 K R hK
  rw [zap]
  (conv => lhs; arg 4; whnf)
  first | (refine zt ?_; refine zaf (I.1 _ _ ?_ ?_ ?_ ?_ ?_ ?_ ?_ ?_ ?_ ?_ ?_ _ _ hK); (iterate 11 exact zs)) | (refine zt ?_; simp only [zfy] at hK; refine hK _ _ ?_ ?_ ?_ ?_ ?_ ?_ ?_ ?_; (iterate 8 exact zs))
def zfz (c14 : Int) (c16 : Sl zam) (c17 c18 : Int) (c19 : Sl zaj) (c20 c21 : Int) (c22 : Sl (Sl zam)) (c23 : Int) (c25 : zaj) (K : YK) (R : YL) : Out (Int) (Int × Int) -> Prop
 | .ret r => ∀ (e : Env) (m : Mem), e 2 = (.int .i64 r) -> K .ret ⟨e, m⟩ = R
 | .done q => ∀ (e : Env) (m : Mem), e 3 = (.int .i64 c14) -> zb9 (e 7) m 7 11 (zaz c25) -> e 8 = (.int .i64 q.1) -> e 13 = (dSl zaq c16) -> e 14 = (.int .i64 c17) -> e 15 = (.int .i64 c18) -> e 20 = (dSl zaz c19) -> e 21 = (.int .i64 c20) -> e 22 = (.int .i64 c21) -> K (.exit 4) ⟨e, m⟩ = R
noncomputable def zrg : Code := za4 f70 [1, 1, 0, 1, 0, 0, 1, 1, 0, 0, 1, 1, 0, 0, 1, 1, 0, 0, 1, 1, 1, 0, 1, 0, 0]
theorem zkz {c14 : Int} {c16 : Sl zam} {c17 c18 : Int} {c19 : Sl zaj} {c20 c21 : Int} {c22 : Sl (Sl zam)} {c23 : Int} {c25 : zaj} {sz : Nat} (hg : zSY sz) {kk : Nat} : ∀ {k : Nat} {s15 s24 : Int} {out : Out (Int) (Int × Int)}, zbV c14 c16 c17 c18 c19 c20 c21 c22 c23 c25 sz kk k s15 s24 = some out -> ∃ N, ∀ n, N <= n -> ∀ k, N <= k -> ∀ (e : Env) (m : Mem), e 3 = (.int .i64 c14) -> zb9 (e 7) m 7 11 (zaz c25) -> e 8 = (.int .i64 s15) -> e 13 = (dSl zaq c16) -> e 14 = (.int .i64 c17) -> e 15 = (.int .i64 c18) -> e 20 = (dSl zaz c19) -> e 21 = (.int .i64 c20) -> e 22 = (.int .i64 c21) -> e 32 = (dSl (cSl zaq) c22) -> e 33 = (.int .i64 c23) -> e 34 = (.int .i64 s24) -> ∀ (K : YK) (R : YL), zfz c14 c16 c17 c18 c19 c20 c21 c22 c23 c25 K R out -> zbU (zbt cfg (dfn cfg n) n zrg) K k ⟨e, m⟩ = R := by
 have hN := hg
 intro k
 induction k with
 | zero => intro s15 s24 out h; cases h
 | succ k ih => ?_
 intro s15 s24 out h
 have ih := fun x0 x1 {out} => @ih x0 x1 out
 unfold zbV at h
 have E := evT
 rcases zac h with ⟨h5_, h⟩ | ⟨h5_, h⟩
 obtain ⟨y26, h6_, h⟩ := zaa h
 obtain ⟨_, h7_⟩ := zaA h6_
 have h7_ := zav h7_ (cSl zaq)
 obtain ⟨_, h8_, h⟩ := zaa h
 have E := E.and (hN y26 (zah h8_))
 all_goals
  first | (cases h; refine E.l fun n k x => ?_) | refine E.c (ih _ _ h) fun n k x I => ?_
  intro e m i0 i1 i2 i3 i4 i5 i6 i7 i8 i9 i10 i11 K R hK
  obtain ⟨_, _, _⟩ := i1
  rw [zap]
  (conv => lhs; arg 4; whnf)
  first | (refine zt ?_; refine zaf (I.1 _ _ ?_ ?_ ?_ ?_ ?_ ?_ ?_ ?_ ?_ ?_ ?_ ?_ _ _ hK); (iterate 12 exact zs)) | (refine zt ?_; simp only [zfz] at hK; refine hK _ _ ?_ ?_ ?_ ?_ ?_ ?_ ?_ ?_ ?_; (iterate 9 exact zs))
def zcW (c7 : Sl zam) (c8 c9 : Int) (c10 : Sl zaj) (c11 : Int) (K : YK) (R : YL) : Out (Int) (Int × Int) -> Prop
 | .ret r => ∀ (e : Env) (m : Mem), e 2 = (.int .i64 r) -> K .ret ⟨e, m⟩ = R
 | .done q => ∀ (e : Env) (m : Mem), e 3 = (.int .i64 q.1) -> e 13 = (dSl zaq c7) -> e 14 = (.int .i64 c8) -> e 15 = (.int .i64 c9) -> K (.exit 2) ⟨e, m⟩ = R
noncomputable def zrh : Code := za4 f70 [1, 1, 0, 1, 0, 0, 1, 1, 0, 0, 1, 1, 0, 0]
theorem zkA {c7 : Sl zam} {c8 c9 : Int} {c10 : Sl zaj} {c11 : Int} {sz : Nat} (hg : zSY sz) {kk : Nat} : ∀ {k : Nat} {s6 s12 : Int} {out : Out (Int) (Int × Int)}, zbW c7 c8 c9 c10 c11 sz kk k s6 s12 = some out -> ∃ N, ∀ n, N <= n -> ∀ k, N <= k -> ∀ (e : Env) (m : Mem), e 3 = (.int .i64 s6) -> e 13 = (dSl zaq c7) -> e 14 = (.int .i64 c8) -> e 15 = (.int .i64 c9) -> e 20 = (dSl zaz c10) -> e 21 = (.int .i64 c11) -> e 22 = (.int .i64 s12) -> ∀ (K : YK) (R : YL), zcW c7 c8 c9 c10 c11 K R out -> zbU (zbt cfg (dfn cfg n) n zrh) K k ⟨e, m⟩ = R := by
 intro k
 induction k with
 | zero => intro s6 s12 out h; cases h
 | succ k ih => ?_
 intro s6 s12 out h
 have ih := fun x0 x1 {out} => @ih x0 x1 out
 unfold zbW at h
 have E := evT
 rcases zac h with ⟨h9_, h⟩ | ⟨h9_, h⟩
 obtain ⟨y13, h10_, h⟩ := zaa h
 obtain ⟨_, h11_⟩ := zaA h10_
 have h11_ := zav h11_ zaz
 rcases zac h with ⟨h12_, h⟩ | ⟨h12_, h⟩
 rotate_left
 rcases zaw h with ⟨r15_, o14_, h⟩ | ⟨q28, o14_, h⟩
 obtain ⟨_, l13_, E⟩ := E.lp (zkz hg o14_)
 rotate_left
 obtain ⟨_, l16_, E⟩ := E.lp (zkz hg o14_)
 rcases zaw h with ⟨r19_, o18_, h⟩ | ⟨q42, o18_, h⟩
 obtain ⟨_, l17_, E⟩ := E.lp (zky hg o18_)
 rotate_left
 obtain ⟨_, l20_, E⟩ := E.lp (zky hg o18_)
 all_goals
  first | (cases h; refine E.l fun n k x => ?_) | refine E.c (ih _ _ h) fun n k x I => ?_
  intro e m i0 i1 i2 i3 i4 i5 i6 K R hK
  rw [zap]
  (conv => lhs; arg 4; whnf)
  first | (have := l13_; refine zt ?_; refine zaf (l13_.1 n YJ _ _ ?_ ?_ ?_ ?_ ?_ ?_ ?_ ?_ ?_ ?_ ?_ ?_ _ _ ?_); (iterate 12 exact zs); simp only [zfz]; intro e m i0; (try refine zt ?_); simp only [zcW] at hK; refine hK _ _ ?_; exact zs) | (have := l16_; refine zt ?_; refine zaf (l16_.1 n YJ _ _ ?_ ?_ ?_ ?_ ?_ ?_ ?_ ?_ ?_ ?_ ?_ ?_ _ _ ?_); (iterate 12 exact zs); simp only [zfz]; intro e m i0 i1 i2 i3 i4 i5 i6 i7 i8; obtain ⟨_, _, _⟩ := i1; (first | (have := l17_; (try refine zt ?_); refine zaf (l17_.1 n YJ _ _ ?_ ?_ ?_ ?_ ?_ ?_ ?_ ?_ ?_ ?_ ?_ _ _ ?_); (iterate 11 exact zs); simp only [zfy]; intro e m i0; (try refine zt ?_); simp only [zcW] at hK; refine hK _ _ ?_; exact zs) | (have := l20_; (try refine zt ?_); refine zaf (l20_.1 n YJ _ _ ?_ ?_ ?_ ?_ ?_ ?_ ?_ ?_ ?_ ?_ ?_ _ _ ?_); (iterate 11 exact zs); simp only [zfy]; intro e m i0 i1 i2 i3 i4 i5 i6 i7; (try refine zt ?_); refine zaf (I.1 _ _ ?_ ?_ ?_ ?_ ?_ ?_ ?_ _ _ hK); (iterate 7 exact zs)))) | ((try refine zt ?_); refine zaf (I.1 _ _ ?_ ?_ ?_ ?_ ?_ ?_ ?_ _ _ hK); (iterate 7 exact zs)) | ((try refine zt ?_); simp only [zcW] at hK; refine hK _ _ ?_ ?_ ?_ ?_; (iterate 4 exact zs))
def zdH (c2 : Sl zam) (c3 : Int) (K : YK) (R : YL) : Out (Int) (Int × Int) -> Prop
 | .ret r => ∀ (e : Env) (m : Mem), e 2 = (.int .i64 r) -> K .ret ⟨e, m⟩ = R
 | .done q => ∀ (e : Env) (m : Mem), e 3 = (.int .i64 q.1) -> K (.exit 0) ⟨e, m⟩ = R
noncomputable def zri : Code := za4 f70 [1, 1, 0, 1, 0, 0]
theorem zkB {c2 : Sl zam} {c3 : Int} {sz : Nat} (hg : zSY sz) {kk : Nat} : ∀ {k : Nat} {s1 s4 : Int} {out : Out (Int) (Int × Int)}, zcc c2 c3 sz kk k s1 s4 = some out -> ∃ N, ∀ n, N <= n -> ∀ k, N <= k -> ∀ (e : Env) (m : Mem), e 3 = (.int .i64 s1) -> e 13 = (dSl zaq c2) -> e 14 = (.int .i64 c3) -> e 15 = (.int .i64 s4) -> ∀ (K : YK) (R : YL), zdH c2 c3 K R out -> zbU (zbt cfg (dfn cfg n) n zri) K k ⟨e, m⟩ = R := by
 intro k
 induction k with
 | zero => intro s1 s4 out h; cases h
 | succ k ih => ?_
 intro s1 s4 out h
 have ih := fun x0 x1 {out} => @ih x0 x1 out
 unfold zcc at h
 have E := evT
 rcases zac h with ⟨h21_, h⟩ | ⟨h21_, h⟩
 obtain ⟨y5, h22_, h⟩ := zaa h
 obtain ⟨_, h23_⟩ := zaA h22_
 have h23_ := zav h23_ zaq
 rcases zaw h with ⟨r26_, o25_, h⟩ | ⟨q43, o25_, h⟩
 obtain ⟨_, l24_, E⟩ := E.lp (zkA hg o25_)
 rotate_left
 obtain ⟨_, l27_, E⟩ := E.lp (zkA hg o25_)
 all_goals
  first | (cases h; refine E.l fun n k x => ?_) | refine E.c (ih _ _ h) fun n k x I => ?_
  intro e m i0 i1 i2 i3 K R hK
  rw [zap]
  (conv => lhs; arg 4; whnf)
  first | (have := l24_; refine zt ?_; refine zaf (l24_.1 n YJ _ _ ?_ ?_ ?_ ?_ ?_ ?_ ?_ _ _ ?_); (iterate 7 exact zs); simp only [zcW]; intro e m i0; (try refine zt ?_); simp only [zdH] at hK; refine hK _ _ ?_; exact zs) | (have := l27_; refine zt ?_; refine zaf (l27_.1 n YJ _ _ ?_ ?_ ?_ ?_ ?_ ?_ ?_ _ _ ?_); (iterate 7 exact zs); simp only [zcW]; intro e m i0 i1 i2 i3; (try refine zt ?_); refine zaf (I.1 _ _ ?_ ?_ ?_ ?_ _ _ hK); (iterate 4 exact zs)) | ((try refine zt ?_); simp only [zdH] at hK; refine hK _ _ ?_; exact zs)
theorem ztG {kk : Nat} {a : (Sl zam)} {sz : Nat} (hg : zSY sz) {r : Int} (h : zg7 kk sz a = some r) : Ev cfg 70 [(dSl zaq a)] (.int .i64 r) := by
 unfold zg7 at h
 have E := evT
 rcases zaw h with ⟨r30_, o29_, h⟩ | ⟨q44, o29_, h⟩
 obtain ⟨_, l28_, E⟩ := E.lp (zkB hg o29_)
 rotate_left
 obtain ⟨_, l31_, E⟩ := E.lp (zkB hg o29_)
 all_goals
  cases h
  refine E.s fun n x => ?_
  first | (have := l28_; refine zt ?_; refine zaf (l28_.1 n YJ _ _ ?_ ?_ ?_ ?_ _ _ ?_); (iterate 4 exact zs); simp only [zdH]; intro e m i0; exact zs) | (have := l31_; refine zt ?_; refine zaf (l31_.1 n YJ _ _ ?_ ?_ ?_ ?_ _ _ ?_); (iterate 4 exact zs); simp only [zdH]; intro e m i0; exact zs)
theorem zrB : ∀ s : Nat, s < big -> zSY s := by
 intro s
 induction s with
 | zero => intro _; exact fun _ h => absurd h YJ
 | succ s ih =>
   intro hb
   have hg := ih YJ
   exact
    fun a h => ztG (sz := s) hg (zq6 (kk := s + 1) (sz := s) YJ YJ YJ)
theorem ztY (a : (Sl zam)) (h : zak a.l < big - 1) : Ev cfg 70 [(dSl zaq a)] (.int .i64 (zkh a)) := (zrB (big - 1) (by unfold big; omega)) a h
def zmK (c19 : Sl zam) (c21 c22 : Int) (c24 : zas) (K : YK) (R : YL) : Out (Int) (Int × Int) -> Prop
 | .ret r => ∀ (e : Env) (m : Mem), e 2 = (.int .i64 r) -> K .ret ⟨e, m⟩ = R
 | .done q => ∀ (e : Env) (m : Mem), e 0 = (dSl zaq c19) -> e 3 = (.int .i64 q.1) -> e 4 = (.int .i64 c21) -> e 5 = (.int .i64 c22) -> K (.exit 6) ⟨e, m⟩ = R
noncomputable def zED : Code := za4 f133 [1, 1, 0, 1, 0, 0, 1, 0, 0, 1, 1, 0, 0, 1, 0, 0, 1, 1, 1, 1, 0, 0]
abbrev zSX (sz : Nat) : Prop := (∀ (a : (Sl zam)), zak a.l < sz -> Ev cfg 133 [(dSl zaq a)] (.int .i64 (zmA a)))
theorem zwo {c19 : Sl zam} {c21 c22 : Int} {c24 : zas} {sz : Nat} (hg : zSX sz) {kk : Nat} : ∀ {k : Nat} {s20 s23 : Int} {out : Out (Int) (Int × Int)}, zhr c19 c21 c22 c24 sz kk k s20 s23 = some out -> ∃ N, ∀ n, N <= n -> ∀ k, N <= k -> ∀ (e : Env) (m : Mem), e 0 = (dSl zaq c19) -> e 3 = (.int .i64 s20) -> e 4 = (.int .i64 c21) -> e 5 = (.int .i64 c22) -> zb9 (e 6) m 6 10 (zbQ c24) -> e 8 = (.int .i64 s23) -> ∀ (K : YK) (R : YL), zmK c19 c21 c22 c24 K R out -> zbU (zbt cfg (dfn cfg n) n zED) K k ⟨e, m⟩ = R := by
 have hS := hg
 intro k
 induction k with
 | zero => intro s20 s23 out h; cases h
 | succ k ih => ?_
 intro s20 s23 out h
 have ih := fun x0 x1 {out} => @ih x0 x1 out
 unfold zhr at h
 have E := evT
 rcases zac h with ⟨h1_, h⟩ | ⟨h1_, h⟩
 obtain ⟨y25, h2_, h⟩ := zaa h
 obtain ⟨_, h3_⟩ := zaA h2_
 have h3_ := zav h3_ zao
 obtain ⟨_, h4_, h⟩ := zaa h
 have E := E.and (hS y25.ann (zah h4_))
 all_goals
  first | (cases h; refine E.l fun n k x => ?_) | refine E.c (ih _ _ h) fun n k x I => ?_
  intro e m i0 i1 i2 i3 i4 i5 K R hK
  obtain ⟨_, _, _⟩ := i4
  rw [zap]
  (conv => lhs; arg 4; whnf)
  first | (refine zt ?_; refine zaf (I.1 _ _ ?_ ?_ ?_ ?_ ?_ ?_ _ _ hK); (iterate 6 exact zs)) | (refine zt ?_; simp only [zmK] at hK; refine hK _ _ ?_ ?_ ?_ ?_; (iterate 4 exact zs))
def zmL (c10 : Sl zam) (c12 c13 : Int) (c15 : zas) (K : YK) (R : YL) : Out (Int) (Int × Int) -> Prop
 | .ret r => ∀ (e : Env) (m : Mem), e 2 = (.int .i64 r) -> K .ret ⟨e, m⟩ = R
 | .done q => ∀ (e : Env) (m : Mem), e 0 = (dSl zaq c10) -> e 3 = (.int .i64 q.1) -> e 4 = (.int .i64 c12) -> e 5 = (.int .i64 c13) -> zb9 (e 6) m 6 10 (zbQ c15) -> K (.exit 4) ⟨e, m⟩ = R
noncomputable def zEE : Code := za4 f133 [1, 1, 0, 1, 0, 0, 1, 0, 0, 1, 1, 0, 0, 1, 0, 0, 1, 1, 0, 1, 0, 0]
theorem zwp {c10 : Sl zam} {c12 c13 : Int} {c15 : zas} {sz : Nat} (hg : zSX sz) {kk : Nat} : ∀ {k : Nat} {s11 s14 : Int} {out : Out (Int) (Int × Int)}, zhs c10 c12 c13 c15 sz kk k s11 s14 = some out -> ∃ N, ∀ n, N <= n -> ∀ k, N <= k -> ∀ (e : Env) (m : Mem), e 0 = (dSl zaq c10) -> e 3 = (.int .i64 s11) -> e 4 = (.int .i64 c12) -> e 5 = (.int .i64 c13) -> zb9 (e 6) m 6 10 (zbQ c15) -> e 7 = (.int .i64 s14) -> ∀ (K : YK) (R : YL), zmL c10 c12 c13 c15 K R out -> zbU (zbt cfg (dfn cfg n) n zEE) K k ⟨e, m⟩ = R := by
 have hS := hg
 intro k
 induction k with
 | zero => intro s11 s14 out h; cases h
 | succ k ih => ?_
 intro s11 s14 out h
 have ih := fun x0 x1 {out} => @ih x0 x1 out
 unfold zhs at h
 have E := evT
 rcases zac h with ⟨h5_, h⟩ | ⟨h5_, h⟩
 obtain ⟨y16, h6_, h⟩ := zaa h
 obtain ⟨_, h7_⟩ := zaA h6_
 have h7_ := zav h7_ (cSl zaq)
 obtain ⟨_, h8_, h⟩ := zaa h
 have E := E.and (hS y16 (zah h8_))
 all_goals
  first | (cases h; refine E.l fun n k x => ?_) | refine E.c (ih _ _ h) fun n k x I => ?_
  intro e m i0 i1 i2 i3 i4 i5 K R hK
  obtain ⟨_, _, _⟩ := i4
  rw [zap]
  (conv => lhs; arg 4; whnf)
  first | (refine zt ?_; refine zaf (I.1 _ _ ?_ ?_ ?_ ?_ ?_ ?_ _ _ hK); (iterate 6 exact zs)) | (refine zt ?_; simp only [zmL] at hK; refine hK _ _ ?_ ?_ ?_ ?_ ?_; (iterate 5 exact zs))
def zi3 (c4 : Sl zam) (c6 : Int) (K : YK) (R : YL) : Out (Int) (Int × Int) -> Prop
 | .ret r => ∀ (e : Env) (m : Mem), e 2 = (.int .i64 r) -> K .ret ⟨e, m⟩ = R
 | .done q => ∀ (e : Env) (m : Mem), e 0 = (dSl zaq c4) -> e 3 = (.int .i64 q.1) -> e 4 = (.int .i64 c6) -> K (.exit 2) ⟨e, m⟩ = R
noncomputable def zEF : Code := za4 f133 [1, 1, 0, 1, 0, 0, 1, 0, 0, 1, 1, 0, 0]
theorem zwq {c4 : Sl zam} {c6 : Int} {sz : Nat} (hg : zSX sz) {kk : Nat} : ∀ {k : Nat} {s5 s7 : Int} {out : Out (Int) (Int × Int)}, zht c4 c6 sz kk k s5 s7 = some out -> ∃ N, ∀ n, N <= n -> ∀ k, N <= k -> ∀ (e : Env) (m : Mem), e 0 = (dSl zaq c4) -> e 3 = (.int .i64 s5) -> e 4 = (.int .i64 c6) -> e 5 = (.int .i64 s7) -> ∀ (K : YK) (R : YL), zi3 c4 c6 K R out -> zbU (zbt cfg (dfn cfg n) n zEF) K k ⟨e, m⟩ = R := by
 intro k
 induction k with
 | zero => intro s5 s7 out h; cases h
 | succ k ih => ?_
 intro s5 s7 out h
 have ih := fun x0 x1 {out} => @ih x0 x1 out
 unfold zht at h
 have E := evT
 obtain ⟨y8, h9_, h⟩ := zaa h
 obtain ⟨_, h10_⟩ := zaA h9_
 have h10_ := zav h10_ zaq
 rcases zac h with ⟨h11_, h⟩ | ⟨h11_, h⟩
 obtain ⟨y9, h12_, h⟩ := zaa h
 obtain ⟨_, h13_⟩ := zaA h12_
 have h13_ := zav h13_ zaz
 rcases zaw h with ⟨r16_, o15_, h⟩ | ⟨q18, o15_, h⟩
 obtain ⟨_, l14_, E⟩ := E.lp (zwp hg o15_)
 rotate_left
 obtain ⟨_, l17_, E⟩ := E.lp (zwp hg o15_)
 rcases zaw h with ⟨r20_, o19_, h⟩ | ⟨q27, o19_, h⟩
 obtain ⟨_, l18_, E⟩ := E.lp (zwo hg o19_)
 rotate_left
 obtain ⟨_, l21_, E⟩ := E.lp (zwo hg o19_)
 all_goals
  first | (cases h; refine E.l fun n k x => ?_) | refine E.c (ih _ _ h) fun n k x I => ?_
  intro e m i0 i1 i2 i3 K R hK
  rw [zap]
  (conv => lhs; arg 4; whnf)
  first | (have := l14_; refine zt ?_; refine zaf (l14_.1 n YJ _ _ ?_ ?_ ?_ ?_ ?_ ?_ _ _ ?_); (iterate 6 exact zs); simp only [zmL]; intro e m i0; (try refine zt ?_); simp only [zi3] at hK; refine hK _ _ ?_; exact zs) | (have := l17_; refine zt ?_; refine zaf (l17_.1 n YJ _ _ ?_ ?_ ?_ ?_ ?_ ?_ _ _ ?_); (iterate 6 exact zs); simp only [zmL]; intro e m i0 i1 i2 i3 i4; obtain ⟨_, _, _⟩ := i4; (first | (have := l18_; (try refine zt ?_); refine zaf (l18_.1 n YJ _ _ ?_ ?_ ?_ ?_ ?_ ?_ _ _ ?_); (iterate 6 exact zs); simp only [zmK]; intro e m i0; (try refine zt ?_); simp only [zi3] at hK; refine hK _ _ ?_; exact zs) | (have := l21_; (try refine zt ?_); refine zaf (l21_.1 n YJ _ _ ?_ ?_ ?_ ?_ ?_ ?_ _ _ ?_); (iterate 6 exact zs); simp only [zmK]; intro e m i0 i1 i2 i3; (try refine zt ?_); refine zaf (I.1 _ _ ?_ ?_ ?_ ?_ _ _ hK); (iterate 4 exact zs)))) | ((try refine zt ?_); simp only [zi3] at hK; refine hK _ _ ?_ ?_ ?_; (iterate 3 exact zs))
def zkH (c1 : Sl zam) (K : YK) (R : YL) : Out (Int) (Int × Int) -> Prop
 | .ret r => ∀ (e : Env) (m : Mem), e 2 = (.int .i64 r) -> K .ret ⟨e, m⟩ = R
 | .done q => ∀ (e : Env) (m : Mem), e 3 = (.int .i64 q.1) -> K (.exit 0) ⟨e, m⟩ = R
noncomputable def zEG : Code := za4 f133 [1, 1, 0, 1, 0, 0]
theorem zwr {c1 : Sl zam} {sz : Nat} (hg : zSX sz) {kk : Nat} : ∀ {k : Nat} {s2 s3 : Int} {out : Out (Int) (Int × Int)}, zhu c1 sz kk k s2 s3 = some out -> ∃ N, ∀ n, N <= n -> ∀ k, N <= k -> ∀ (e : Env) (m : Mem), e 0 = (dSl zaq c1) -> e 3 = (.int .i64 s2) -> e 4 = (.int .i64 s3) -> ∀ (K : YK) (R : YL), zkH c1 K R out -> zbU (zbt cfg (dfn cfg n) n zEG) K k ⟨e, m⟩ = R := by
 intro k
 induction k with
 | zero => intro s2 s3 out h; cases h
 | succ k ih => ?_
 intro s2 s3 out h
 have ih := fun x0 x1 {out} => @ih x0 x1 out
 unfold zhu at h
 have E := evT
 rcases zac h with ⟨h22_, h⟩ | ⟨h22_, h⟩
 rcases zaw h with ⟨r25_, o24_, h⟩ | ⟨q28, o24_, h⟩
 obtain ⟨_, l23_, E⟩ := E.lp (zwq hg o24_)
 rotate_left
 obtain ⟨_, l26_, E⟩ := E.lp (zwq hg o24_)
 all_goals
  first | (cases h; refine E.l fun n k x => ?_) | refine E.c (ih _ _ h) fun n k x I => ?_
  intro e m i0 i1 i2 K R hK
  rw [zap]
  (conv => lhs; arg 4; whnf)
  first | (have := l23_; refine zt ?_; refine zaf (l23_.1 n YJ _ _ ?_ ?_ ?_ ?_ _ _ ?_); (iterate 4 exact zs); simp only [zi3]; intro e m i0; (try refine zt ?_); simp only [zkH] at hK; refine hK _ _ ?_; exact zs) | (have := l26_; refine zt ?_; refine zaf (l26_.1 n YJ _ _ ?_ ?_ ?_ ?_ _ _ ?_); (iterate 4 exact zs); simp only [zi3]; intro e m i0 i1 i2; (try refine zt ?_); refine zaf (I.1 _ _ ?_ ?_ ?_ _ _ hK); (iterate 3 exact zs)) | ((try refine zt ?_); simp only [zkH] at hK; refine hK _ _ ?_; exact zs)
theorem zK7 {kk : Nat} {a : (Sl zam)} {sz : Nat} (hg : zSX sz) {r : Int} (h : zts kk sz a = some r) : Ev cfg 133 [(dSl zaq a)] (.int .i64 r) := by
 unfold zts at h
 have E := evT
 rcases zaw h with ⟨r29_, o28_, h⟩ | ⟨q29, o28_, h⟩
 obtain ⟨_, l27_, E⟩ := E.lp (zwr hg o28_)
 rotate_left
 obtain ⟨_, l30_, E⟩ := E.lp (zwr hg o28_)
 all_goals
  cases h
  refine E.s fun n x => ?_
  first | (have := l27_; refine zt ?_; refine zaf (l27_.1 n YJ _ _ ?_ ?_ ?_ _ _ ?_); (iterate 3 exact zs); simp only [zkH]; intro e m i0; exact zs) | (have := l30_; refine zt ?_; refine zaf (l30_.1 n YJ _ _ ?_ ?_ ?_ _ _ ?_); (iterate 3 exact zs); simp only [zkH]; intro e m i0; exact zs)
theorem zFk : ∀ s : Nat, s < big -> zSX s := by
 intro s
 induction s with
 | zero => intro _; exact fun _ h => absurd h YJ
 | succ s ih =>
   intro hb
   have hg := ih YJ
   exact
    fun a h => zK7 (sz := s) hg (zEs (kk := s + 1) (sz := s) YJ YJ YJ)
theorem zLe (a : (Sl zam)) (h : zak a.l < big - 1) : Ev cfg 133 [(dSl zaq a)] (.int .i64 (zmA a)) := (zFk (big - 1) (by unfold big; omega)) a h
def zjJ (c20 : Sl zam) (c21 c22 c23 : Int) (c26 : zas) (K : YK) (R : YL) : Out (Int) (Int × Int) -> Prop
 | .ret r => ∀ (e : Env) (m : Mem), e 2 = (.int .i64 r) -> K .ret ⟨e, m⟩ = R
 | .done q => ∀ (e : Env) (m : Mem), e 0 = (dSl zaq c20) -> e 3 = (.int .i64 c21) -> e 4 = (.int .i64 c22) -> e 5 = (.int .i64 c23) -> e 7 = (.int .i64 q.1) -> K (.exit 6) ⟨e, m⟩ = R
noncomputable def zy8 : Code := za4 f132 [1, 1, 0, 1, 0, 0, 1, 0, 0, 1, 0, 0, 1, 0, 0, 1, 1, 1, 1, 0, 1, 0, 0]
abbrev zSW (sz : Nat) : Prop := (∀ (a : (Sl zam)), zak a.l < sz -> Ev cfg 132 [(dSl zaq a)] (.int .i64 (zkh a)))
theorem zrt {c20 : Sl zam} {c21 c22 c23 : Int} {c26 : zas} {sz : Nat} (hg : zSW sz) {kk : Nat} : ∀ {k : Nat} {s24 s25 : Int} {out : Out (Int) (Int × Int)}, zeC c20 c21 c22 c23 c26 sz kk k s24 s25 = some out -> ∃ N, ∀ n, N <= n -> ∀ k, N <= k -> ∀ (e : Env) (m : Mem), e 0 = (dSl zaq c20) -> e 3 = (.int .i64 c21) -> e 4 = (.int .i64 c22) -> e 5 = (.int .i64 c23) -> zb9 (e 6) m 6 10 (zbQ c26) -> e 7 = (.int .i64 s24) -> e 9 = (.int .i64 s25) -> ∀ (K : YK) (R : YL), zjJ c20 c21 c22 c23 c26 K R out -> zbU (zbt cfg (dfn cfg n) n zy8) K k ⟨e, m⟩ = R := by
 have hN := hg
 intro k
 induction k with
 | zero => intro s24 s25 out h; cases h
 | succ k ih => ?_
 intro s24 s25 out h
 have ih := fun x0 x1 {out} => @ih x0 x1 out
 unfold zeC at h
 have E := evT
 rcases zac h with ⟨h1_, h⟩ | ⟨h1_, h⟩
 obtain ⟨y27, h2_, h⟩ := zaa h
 obtain ⟨_, h3_⟩ := zaA h2_
 have h3_ := zav h3_ zao
 obtain ⟨_, h4_, h⟩ := zaa h
 have E := E.and (hN y27.ann (zah h4_))
 all_goals
  first | (cases h; refine E.l fun n k x => ?_) | refine E.c (ih _ _ h) fun n k x I => ?_
  intro e m i0 i1 i2 i3 i4 i5 i6 K R hK
  obtain ⟨_, _, _⟩ := i4
  rw [zap]
  (conv => lhs; arg 4; whnf)
  first | (refine zt ?_; refine zaf (I.1 _ _ ?_ ?_ ?_ ?_ ?_ ?_ ?_ _ _ hK); (iterate 7 exact zs)) | (refine zt ?_; simp only [zjJ] at hK; refine hK _ _ ?_ ?_ ?_ ?_ ?_; (iterate 5 exact zs))
def zjK (c10 : Sl zam) (c11 c12 c13 : Int) (c16 : zas) (K : YK) (R : YL) : Out (Int) (Int × Int) -> Prop
 | .ret r => ∀ (e : Env) (m : Mem), e 2 = (.int .i64 r) -> K .ret ⟨e, m⟩ = R
 | .done q => ∀ (e : Env) (m : Mem), e 0 = (dSl zaq c10) -> e 3 = (.int .i64 c11) -> e 4 = (.int .i64 c12) -> e 5 = (.int .i64 c13) -> zb9 (e 6) m 6 10 (zbQ c16) -> e 7 = (.int .i64 q.1) -> K (.exit 4) ⟨e, m⟩ = R
noncomputable def zy9 : Code := za4 f132 [1, 1, 0, 1, 0, 0, 1, 0, 0, 1, 0, 0, 1, 0, 0, 1, 1, 1, 0, 1, 0, 0]
theorem zru {c10 : Sl zam} {c11 c12 c13 : Int} {c16 : zas} {sz : Nat} (hg : zSW sz) {kk : Nat} : ∀ {k : Nat} {s14 s15 : Int} {out : Out (Int) (Int × Int)}, zdJ c10 c11 c12 c13 c16 sz kk k s14 s15 = some out -> ∃ N, ∀ n, N <= n -> ∀ k, N <= k -> ∀ (e : Env) (m : Mem), e 0 = (dSl zaq c10) -> e 3 = (.int .i64 c11) -> e 4 = (.int .i64 c12) -> e 5 = (.int .i64 c13) -> zb9 (e 6) m 6 10 (zbQ c16) -> e 7 = (.int .i64 s14) -> e 8 = (.int .i64 s15) -> ∀ (K : YK) (R : YL), zjK c10 c11 c12 c13 c16 K R out -> zbU (zbt cfg (dfn cfg n) n zy9) K k ⟨e, m⟩ = R := by
 have hN := hg
 intro k
 induction k with
 | zero => intro s14 s15 out h; cases h
 | succ k ih => ?_
 intro s14 s15 out h
 have ih := fun x0 x1 {out} => @ih x0 x1 out
 unfold zdJ at h
 have E := evT
 rcases zac h with ⟨h5_, h⟩ | ⟨h5_, h⟩
 obtain ⟨y17, h6_, h⟩ := zaa h
 obtain ⟨_, h7_⟩ := zaA h6_
 have h7_ := zav h7_ (cSl zaq)
 obtain ⟨_, h8_, h⟩ := zaa h
 have E := E.and (hN y17 (zah h8_))
 all_goals
  first | (cases h; refine E.l fun n k x => ?_) | refine E.c (ih _ _ h) fun n k x I => ?_
  intro e m i0 i1 i2 i3 i4 i5 i6 K R hK
  obtain ⟨_, _, _⟩ := i4
  rw [zap]
  (conv => lhs; arg 4; whnf)
  first | (refine zt ?_; refine zaf (I.1 _ _ ?_ ?_ ?_ ?_ ?_ ?_ ?_ _ _ hK); (iterate 7 exact zs)) | (refine zt ?_; simp only [zjK] at hK; refine hK _ _ ?_ ?_ ?_ ?_ ?_ ?_; (iterate 6 exact zs))
def zgp (c4 : Sl zam) (c6 : Int) (K : YK) (R : YL) : Out (Int) (Int × Int) -> Prop
 | .ret r => ∀ (e : Env) (m : Mem), e 2 = (.int .i64 r) -> K .ret ⟨e, m⟩ = R
 | .done q => ∀ (e : Env) (m : Mem), e 0 = (dSl zaq c4) -> e 3 = (.int .i64 q.1) -> e 4 = (.int .i64 c6) -> K (.exit 2) ⟨e, m⟩ = R
noncomputable def zza : Code := za4 f132 [1, 1, 0, 1, 0, 0, 1, 0, 0, 1, 0, 0]
theorem zrv {c4 : Sl zam} {c6 : Int} {sz : Nat} (hg : zSW sz) {kk : Nat} : ∀ {k : Nat} {s5 s7 : Int} {out : Out (Int) (Int × Int)}, zdK c4 c6 sz kk k s5 s7 = some out -> ∃ N, ∀ n, N <= n -> ∀ k, N <= k -> ∀ (e : Env) (m : Mem), e 0 = (dSl zaq c4) -> e 3 = (.int .i64 s5) -> e 4 = (.int .i64 c6) -> e 5 = (.int .i64 s7) -> ∀ (K : YK) (R : YL), zgp c4 c6 K R out -> zbU (zbt cfg (dfn cfg n) n zza) K k ⟨e, m⟩ = R := by
 intro k
 induction k with
 | zero => intro s5 s7 out h; cases h
 | succ k ih => ?_
 intro s5 s7 out h
 have ih := fun x0 x1 {out} => @ih x0 x1 out
 unfold zdK at h
 have E := evT
 obtain ⟨y8, h9_, h⟩ := zaa h
 obtain ⟨_, h10_⟩ := zaA h9_
 have h10_ := zav h10_ zaq
 rcases zac h with ⟨h11_, h⟩ | ⟨h11_, h⟩
 obtain ⟨y9, h12_, h⟩ := zaa h
 obtain ⟨_, h13_⟩ := zaA h12_
 have h13_ := zav h13_ zaz
 rcases zac h with ⟨h14_, h⟩ | ⟨h14_, h⟩
 rotate_left
 rcases zaw h with ⟨r17_, o16_, h⟩ | ⟨q19, o16_, h⟩
 obtain ⟨_, l15_, E⟩ := E.lp (zru hg o16_)
 rotate_left
 obtain ⟨_, l18_, E⟩ := E.lp (zru hg o16_)
 rcases zaw h with ⟨r21_, o20_, h⟩ | ⟨q29, o20_, h⟩
 obtain ⟨_, l19_, E⟩ := E.lp (zrt hg o20_)
 rotate_left
 obtain ⟨_, l22_, E⟩ := E.lp (zrt hg o20_)
 all_goals
  first | (cases h; refine E.l fun n k x => ?_) | refine E.c (ih _ _ h) fun n k x I => ?_
  intro e m i0 i1 i2 i3 K R hK
  rw [zap]
  (conv => lhs; arg 4; whnf)
  first | (have := l15_; refine zt ?_; refine zaf (l15_.1 n YJ _ _ ?_ ?_ ?_ ?_ ?_ ?_ ?_ _ _ ?_); (iterate 7 exact zs); simp only [zjK]; intro e m i0; (try refine zt ?_); simp only [zgp] at hK; refine hK _ _ ?_; exact zs) | (have := l18_; refine zt ?_; refine zaf (l18_.1 n YJ _ _ ?_ ?_ ?_ ?_ ?_ ?_ ?_ _ _ ?_); (iterate 7 exact zs); simp only [zjK]; intro e m i0 i1 i2 i3 i4 i5; obtain ⟨_, _, _⟩ := i4; (first | (have := l19_; (try refine zt ?_); refine zaf (l19_.1 n YJ _ _ ?_ ?_ ?_ ?_ ?_ ?_ ?_ _ _ ?_); (iterate 7 exact zs); simp only [zjJ]; intro e m i0; (try refine zt ?_); simp only [zgp] at hK; refine hK _ _ ?_; exact zs) | (have := l22_; (try refine zt ?_); refine zaf (l22_.1 n YJ _ _ ?_ ?_ ?_ ?_ ?_ ?_ ?_ _ _ ?_); (iterate 7 exact zs); simp only [zjJ]; intro e m i0 i1 i2 i3 i4; (try refine zt ?_); refine zaf (I.1 _ _ ?_ ?_ ?_ ?_ _ _ hK); (iterate 4 exact zs)))) | ((try refine zt ?_); refine zaf (I.1 _ _ ?_ ?_ ?_ ?_ _ _ hK); (iterate 4 exact zs)) | ((try refine zt ?_); simp only [zgp] at hK; refine hK _ _ ?_ ?_ ?_; (iterate 3 exact zs))
def zhX (c1 : Sl zam) (K : YK) (R : YL) : Out (Int) (Int × Int) -> Prop
 | .ret r => ∀ (e : Env) (m : Mem), e 2 = (.int .i64 r) -> K .ret ⟨e, m⟩ = R
 | .done q => ∀ (e : Env) (m : Mem), e 3 = (.int .i64 q.1) -> K (.exit 0) ⟨e, m⟩ = R
noncomputable def zzb : Code := za4 f132 [1, 1, 0, 1, 0, 0]
theorem zrw {c1 : Sl zam} {sz : Nat} (hg : zSW sz) {kk : Nat} : ∀ {k : Nat} {s2 s3 : Int} {out : Out (Int) (Int × Int)}, zeD c1 sz kk k s2 s3 = some out -> ∃ N, ∀ n, N <= n -> ∀ k, N <= k -> ∀ (e : Env) (m : Mem), e 0 = (dSl zaq c1) -> e 3 = (.int .i64 s2) -> e 4 = (.int .i64 s3) -> ∀ (K : YK) (R : YL), zhX c1 K R out -> zbU (zbt cfg (dfn cfg n) n zzb) K k ⟨e, m⟩ = R := by
 intro k
 induction k with
 | zero => intro s2 s3 out h; cases h
 | succ k ih => ?_
 intro s2 s3 out h
 have ih := fun x0 x1 {out} => @ih x0 x1 out
 unfold zeD at h
 have E := evT
 rcases zac h with ⟨h23_, h⟩ | ⟨h23_, h⟩
 rcases zaw h with ⟨r26_, o25_, h⟩ | ⟨q30, o25_, h⟩
 obtain ⟨_, l24_, E⟩ := E.lp (zrv hg o25_)
 rotate_left
 obtain ⟨_, l27_, E⟩ := E.lp (zrv hg o25_)
 all_goals
  first | (cases h; refine E.l fun n k x => ?_) | refine E.c (ih _ _ h) fun n k x I => ?_
  intro e m i0 i1 i2 K R hK
  rw [zap]
  (conv => lhs; arg 4; whnf)
  first | (have := l24_; refine zt ?_; refine zaf (l24_.1 n YJ _ _ ?_ ?_ ?_ ?_ _ _ ?_); (iterate 4 exact zs); simp only [zgp]; intro e m i0; (try refine zt ?_); simp only [zhX] at hK; refine hK _ _ ?_; exact zs) | (have := l27_; refine zt ?_; refine zaf (l27_.1 n YJ _ _ ?_ ?_ ?_ ?_ _ _ ?_); (iterate 4 exact zs); simp only [zgp]; intro e m i0 i1 i2; (try refine zt ?_); refine zaf (I.1 _ _ ?_ ?_ ?_ _ _ hK); (iterate 3 exact zs)) | ((try refine zt ?_); simp only [zhX] at hK; refine hK _ _ ?_; exact zs)
theorem zEi {kk : Nat} {a : (Sl zam)} {sz : Nat} (hg : zSW sz) {r : Int} (h : zmQ kk sz a = some r) : Ev cfg 132 [(dSl zaq a)] (.int .i64 r) := by
 unfold zmQ at h
 have E := evT
 rcases zaw h with ⟨r30_, o29_, h⟩ | ⟨q31, o29_, h⟩
 obtain ⟨_, l28_, E⟩ := E.lp (zrw hg o29_)
 rotate_left
 obtain ⟨_, l31_, E⟩ := E.lp (zrw hg o29_)
 all_goals
  cases h
  refine E.s fun n x => ?_
  first | (have := l28_; refine zt ?_; refine zaf (l28_.1 n YJ _ _ ?_ ?_ ?_ _ _ ?_); (iterate 3 exact zs); simp only [zhX]; intro e m i0; exact zs) | (have := l31_; refine zt ?_; refine zaf (l31_.1 n YJ _ _ ?_ ?_ ?_ _ _ ?_); (iterate 3 exact zs); simp only [zhX]; intro e m i0; exact zs)
theorem zzZ : ∀ s : Nat, s < big -> zSW s := by
 intro s
 induction s with
 | zero => intro _; exact fun _ h => absurd h YJ
 | succ s ih =>
   intro hb
   have hg := ih YJ
   exact
    fun a h => zEi (sz := s) hg (zy3 (kk := s + 1) (sz := s) YJ YJ YJ)
theorem zEy (a : (Sl zam)) (h : zak a.l < big - 1) : Ev cfg 132 [(dSl zaq a)] (.int .i64 (zkh a)) := (zzZ (big - 1) (by unfold big; omega)) a h
attribute [go_sem] func33 f33 func88 f88 func99 f99 func137 f137
theorem zK8 {kk : Nat} {a : (Sl zam)} {b : (Sl zam)} {r : Bool} (h : ztt kk a b = some r) : Ev cfg 33 [(dSl zaq a), (dSl zaq b)] (.bool r) := by
 unfold ztt at h
 have E := evT
 obtain ⟨_, h1_, h⟩ := zaa h
 have E := E.and (zEz a b (zah h1_))
 cases h
 refine E.s fun n x => ?_
 exact zs
theorem zCW (a : (Sl zam)) (b : (Sl zam)) (h : zak a.l + zak b.l < big - 1) : Ev cfg 33 [(dSl zaq a), (dSl zaq b)] (.bool (zpq a b)) := zK8 (zEt (kk := big) a b h YJ)
theorem zwl {kk : Nat} {a : (Sl zam)} {b : (Sl zam)} {r : Bool} (h : zih kk a b = some r) : Ev cfg 88 [(dSl zaq a), (dSl zaq b)] (.bool r) := by
 unfold zih at h
 have E := evT
 obtain ⟨_, h1_, h⟩ := zaa h
 have E := E.and (zt1 a b (zah h1_))
 cases h
 refine E.s fun n x => ?_
 exact zs
theorem zwO (a : (Sl zam)) (b : (Sl zam)) (h : 8 * (zak a.l + zak b.l) + 7 < big - 1) : Ev cfg 88 [(dSl zaq a), (dSl zaq b)] (.bool (zpq a b)) := zwl (zsV (kk := big) a b h YJ)
def zkI (c6 : Sl zam) (c7 : Int) (K : YK) (R : YL) : Out (Bool) (Int) -> Prop
 | .ret r => ∀ (e : Env) (m : Mem), e 2 = (.bool r) -> K .ret ⟨e, m⟩ = R
 | .done q => ∀ (e : Env) (m : Mem), e 0 = (dSl zaq c6) -> e 3 = (.int .i64 c7) -> K (.exit 2) ⟨e, m⟩ = R
noncomputable def zEH : Code := za4 f99 [1, 1, 0, 1, 0, 0, 1, 0, 0, 1, 1, 0, 0]
theorem zws {c6 : Sl zam} {c7 : Int} {kk : Nat} : ∀ {k : Nat} {s8 : Int} {out : Out (Bool) (Int)}, zhv c6 c7 kk k s8 = some out -> ∃ N, ∀ n, N <= n -> ∀ k, N <= k -> ∀ (e : Env) (m : Mem), e 0 = (dSl zaq c6) -> e 3 = (.int .i64 c7) -> e 4 = (.int .i64 s8) -> ∀ (K : YK) (R : YL), zkI c6 c7 K R out -> zbU (zbt cfg (dfn cfg n) n zEH) K k ⟨e, m⟩ = R := by
 intro k
 induction k with
 | zero => intro s8 out h; cases h
 | succ k ih => ?_
 intro s8 out h
 have ih := fun x0 {out} => @ih x0 out
 unfold zhv at h
 have E := evT
 obtain ⟨y9, h1_, h⟩ := zaa h
 obtain ⟨_, h2_⟩ := zaA h1_
 have h2_ := zav h2_ zaq
 rcases zac h with ⟨h3_, h⟩ | ⟨h3_, h⟩
 obtain ⟨y10, h4_, h⟩ := zaa h
 obtain ⟨_, h5_⟩ := zaA h4_
 have h5_ := zav h5_ zaz
 rcases zac h with ⟨h6_, h⟩ | ⟨h6_, h⟩
 have b7_ := zan h6_
 rcases zac h with ⟨h8_, h⟩ | ⟨h8_, h⟩
 rotate_left
 rotate_left
 have b9_ := zal h6_
 all_goals
  first | (cases h; refine E.l fun n k x => ?_) | refine E.c (ih _ h) fun n k x I => ?_
  intro e m i0 i1 i2 K R hK
  rw [zap]
  (conv => lhs; arg 4; whnf)
  first | (refine zt ?_; simp only [zkI] at hK; refine hK _ _ ?_; exact zs) | (refine zt ?_; refine zaf (I.1 _ _ ?_ ?_ ?_ _ _ hK); (iterate 3 exact zs)) | (refine zt ?_; simp only [zkI] at hK; refine hK _ _ ?_ ?_; (iterate 2 exact zs))
def zi4 (c3 : Sl zam) (K : YK) (R : YL) : Out (Bool) (Int) -> Prop
 | .ret r => ∀ (e : Env) (m : Mem), e 2 = (.bool r) -> K .ret ⟨e, m⟩ = R
 | .done q => ∀ (e : Env) (m : Mem), K (.exit 0) ⟨e, m⟩ = R
noncomputable def zEI : Code := za4 f99 [1, 1, 0, 1, 0, 0]
theorem zwt {c3 : Sl zam} {kk : Nat} : ∀ {k : Nat} {s4 : Int} {out : Out (Bool) (Int)}, zhw c3 kk k s4 = some out -> ∃ N, ∀ n, N <= n -> ∀ k, N <= k -> ∀ (e : Env) (m : Mem), e 0 = (dSl zaq c3) -> e 3 = (.int .i64 s4) -> ∀ (K : YK) (R : YL), zi4 c3 K R out -> zbU (zbt cfg (dfn cfg n) n zEI) K k ⟨e, m⟩ = R := by
 intro k
 induction k with
 | zero => intro s4 out h; cases h
 | succ k ih => ?_
 intro s4 out h
 have ih := fun x0 {out} => @ih x0 out
 unfold zhw at h
 have E := evT
 rcases zac h with ⟨h10_, h⟩ | ⟨h10_, h⟩
 obtain ⟨y5, h11_, h⟩ := zaa h
 obtain ⟨_, h12_⟩ := zaA h11_
 have h12_ := zav h12_ zaq
 rcases zac h with ⟨h13_, h⟩ | ⟨h13_, h⟩
 rotate_left
 rcases zaw h with ⟨r16_, o15_, h⟩ | ⟨q11, o15_, h⟩
 obtain ⟨_, l14_, E⟩ := E.lp (zws o15_)
 rotate_left
 obtain ⟨_, l17_, E⟩ := E.lp (zws o15_)
 all_goals
  first | (cases h; refine E.l fun n k x => ?_) | refine E.c (ih _ h) fun n k x I => ?_
  intro e m i0 i1 K R hK
  rw [zap]
  (conv => lhs; arg 4; whnf)
  first | (have := l14_; refine zt ?_; refine zaf (l14_.1 n YJ _ _ ?_ ?_ ?_ _ _ ?_); (iterate 3 exact zs); simp only [zkI]; intro e m i0; (try refine zt ?_); simp only [zi4] at hK; refine hK _ _ ?_; exact zs) | (have := l17_; refine zt ?_; refine zaf (l17_.1 n YJ _ _ ?_ ?_ ?_ _ _ ?_); (iterate 3 exact zs); simp only [zkI]; intro e m i0 i1; (try refine zt ?_); refine zaf (I.1 _ _ ?_ ?_ _ _ hK); (iterate 2 exact zs)) | ((try refine zt ?_); simp only [zi4] at hK; refine hK _ _ ?_; exact zs) | ((try refine zt ?_); simp only [zi4] at hK; refine hK _ _)
theorem zK9 {kk : Nat} {a : (Sl zam)} {r : Bool} (h : ztu kk a = some r) : Ev cfg 99 [(dSl zaq a)] (.bool r) := by
 unfold ztu at h
 have E := evT
 rcases zac h with ⟨h18_, h⟩ | ⟨h18_, h⟩
 have b19_ := zan h18_
 obtain ⟨_, h20_, h⟩ := zaa h
 have E := E.and (zEy a (zah h20_))
 rcases zac h with ⟨h21_, h⟩ | ⟨h21_, h⟩
 have b22_ := zan h21_
 obtain ⟨_, h23_, h⟩ := zaa h
 have E := E.and (zLe a (zah h23_))
 rcases zac h with ⟨h24_, h⟩ | ⟨h24_, h⟩
 rotate_left
 rcases zaw h with ⟨r27_, o26_, h⟩ | ⟨q12, o26_, h⟩
 obtain ⟨_, l25_, E⟩ := E.lp (zwt o26_)
 rotate_left
 obtain ⟨_, l28_, E⟩ := E.lp (zwt o26_)
 rotate_left
 have b29_ := zal h21_
 rotate_left
 have b30_ := zal h18_
 all_goals
  cases h
  refine E.s fun n x => ?_
  first | (have := l25_; refine zt ?_; refine zaf (l25_.1 n YJ _ _ ?_ ?_ _ _ ?_); (iterate 2 exact zs); simp only [zi4]; intro e m i0; exact zs) | (have := l28_; refine zt ?_; refine zaf (l28_.1 n YJ _ _ ?_ ?_ _ _ ?_); (iterate 2 exact zs); simp only [zi4]; intro e m; exact zs) | (exact zs)
theorem zLf (a : (Sl zam)) (h : zak a.l < big - 1) : Ev cfg 99 [(dSl zaq a)] (.bool (zpz a)) := zK9 (zEu (kk := big) a h YJ)
def zgI (c1 : Int) (c2 : Sl zae) (c4 : Val) (K : YK) (R : YL) : Out (Bool) (Int) -> Prop
 | .ret r => ∀ (e : Env) (m : Mem), e 8 = (.bool r) -> K .ret ⟨e, m⟩ = R
 | .done q => ∀ (e : Env) (m : Mem), K (.exit 0) ⟨e, m⟩ = R
noncomputable def zCa : Code := za4 f137 [1, 1, 0, 1, 0, 0]
theorem zlz {c1 : Int} {c2 : Sl zae} {c4 : Val} {kk : Nat} : ∀ {k : Nat} {s3 : Int} {out : Out (Bool) (Int)}, zhG c1 c2 c4 kk k s3 = some out -> ∃ N, ∀ n, N <= n -> ∀ k, N <= k -> ∀ (e : Env) (m : Mem), e 0 = (.int .i64 c1) -> e 1 = (dSl zao c2) -> zb9 (e 7) m 7 3 (zd0 c4) -> e 9 = (.int .i64 s3) -> ∀ (K : YK) (R : YL), zgI c1 c2 c4 K R out -> zbU (zbt cfg (dfn cfg n) n zCa) K k ⟨e, m⟩ = R := by
 intro k
 induction k with
 | zero => intro s3 out h; cases h
 | succ k ih => ?_
 intro s3 out h
 have ih := fun x0 {out} => @ih x0 out
 unfold zhG at h
 have E := evT
 rcases zac h with ⟨h1_, h⟩ | ⟨h1_, h⟩
 obtain ⟨y5, h2_, h⟩ := zaa h
 obtain ⟨_, h3_⟩ := zaA h2_
 have h3_ := zav h3_ zao
 have E := E.and (znQ y5.value)
 rcases zac h with ⟨h4_, h⟩ | ⟨h4_, h⟩
 rcases zbL h4_ with b5_ | ⟨b5_, b6_⟩
 rcases zbL b5_ with b7_ | ⟨b7_, b8_⟩
 have b9_ := zan b7_
 rcases yG ((c1 == 0)) with h16_ | h16_
 rotate_left
 rotate_left
 have b10_ := zal b7_
 rcases yG ((c1 == 0)) with h17_ | h17_
 rotate_left
 rotate_left
 obtain ⟨b11_, b12_⟩ := zaK b5_
 have b13_ := zal b11_
 obtain ⟨b14_, b15_⟩ := zbG b6_
 rotate_left
 obtain ⟨b18_, b19_⟩ := zaK h4_
 obtain ⟨b20_, b21_⟩ := zaK b18_
 have b22_ := zal b20_
 rcases zbj b19_ with b23_ | ⟨b23_, b24_⟩
 all_goals
  first | (cases h; refine E.l fun n k x => ?_) | refine E.c (ih _ h) fun n k x I => ?_
  intro e m i0 i1 i2 i3 K R hK
  obtain ⟨_, _, _⟩ := i2
  rw [zap]
  (conv => lhs; arg 4; whnf)
  first | (refine zt ?_; simp only [zgI] at hK; refine hK _ _ ?_; exact zs) | (refine zt ?_; refine zaf (I.1 _ _ ?_ ?_ ?_ ?_ _ _ hK); (iterate 4 exact zs)) | (refine zt ?_; simp only [zgI] at hK; refine hK _ _)
theorem zIn {kk : Nat} {a : Int} {b : (Sl zae)} {c : Int} {d : Val} {r : Bool} (h : zq1 kk a b c d = some r) : Ev cfg 137 [(.int .i64 a), (dSl zao b), (.int .i64 c), (.agg (zd0 d))] (.bool r) := by
 unfold zq1 at h
 have E := evT
 have E := E.and (znQ d)
 rcases zac h with ⟨h25_, h⟩ | ⟨h25_, h⟩
 rcases zbL h25_ with b26_ | ⟨b26_, b27_⟩
 rcases zbL b26_ with b28_ | ⟨b28_, b29_⟩
 rcases zbL b28_ with b30_ | ⟨b30_, b31_⟩
 rcases zbL b30_ with b32_ | ⟨b32_, b33_⟩
 rcases zbL b32_ with b34_ | ⟨b34_, b35_⟩
 rcases yG ((decide (a <= 1))) with h60_ | h60_
 rotate_left
 rotate_left
 rcases yG ((decide (a <= 1))) with h61_ | h61_
 rotate_left
 rotate_left
 obtain ⟨b36_, b37_⟩ := zaK b32_
 rcases yG ((decide (a <= 1))) with h62_ | h62_
 rotate_left
 rotate_left
 obtain ⟨b38_, b39_⟩ := zaK b30_
 obtain ⟨b40_, b41_⟩ := zaK b38_
 rcases yG ((decide (a <= 1))) with h63_ | h63_
 rotate_left
 rotate_left
 obtain ⟨b42_, b43_⟩ := zaK b28_
 obtain ⟨b44_, b45_⟩ := zaK b42_
 obtain ⟨b46_, b47_⟩ := zaK b44_
 have b48_ := zan b29_
 rcases yG ((decide (a <= 1))) with h64_ | h64_
 rotate_left
 rotate_left
 obtain ⟨b49_, b50_⟩ := zaK b26_
 obtain ⟨b51_, b52_⟩ := zaK b49_
 obtain ⟨b53_, b54_⟩ := zaK b51_
 obtain ⟨b55_, b56_⟩ := zaK b53_
 have b57_ := zal b50_
 obtain ⟨b58_, b59_⟩ := zbG b27_
 rotate_left
 obtain ⟨b65_, b66_⟩ := zaK h25_
 obtain ⟨b67_, b68_⟩ := zaK b65_
 obtain ⟨b69_, b70_⟩ := zaK b67_
 obtain ⟨b71_, b72_⟩ := zaK b69_
 obtain ⟨b73_, b74_⟩ := zaK b71_
 have b75_ := zal b68_
 rcases zbj b66_ with b76_ | ⟨b76_, b77_⟩
 rcases zaw h with ⟨r80_, o79_, h⟩ | ⟨q6, o79_, h⟩
 obtain ⟨_, l78_, E⟩ := E.lp (zlz o79_)
 rotate_left
 obtain ⟨_, l81_, E⟩ := E.lp (zlz o79_)
 rotate_left
 rcases zaw h with ⟨r84_, o83_, h⟩ | ⟨q6, o83_, h⟩
 obtain ⟨_, l82_, E⟩ := E.lp (zlz o83_)
 rotate_left
 obtain ⟨_, l85_, E⟩ := E.lp (zlz o83_)
 all_goals
  cases h
  refine E.s fun n x => ?_
  first | (have := l78_; refine zt ?_; refine zaf (l78_.1 n YJ _ _ ?_ ?_ ?_ ?_ _ _ ?_); (iterate 4 exact zs); simp only [zgI]; intro e m i0; exact zs) | (have := l81_; refine zt ?_; refine zaf (l81_.1 n YJ _ _ ?_ ?_ ?_ ?_ _ _ ?_); (iterate 4 exact zs); simp only [zgI]; intro e m; exact zs) | (have := l82_; refine zt ?_; refine zaf (l82_.1 n YJ _ _ ?_ ?_ ?_ ?_ _ _ ?_); (iterate 4 exact zs); simp only [zgI]; intro e m i0; exact zs) | (have := l85_; refine zt ?_; refine zaf (l85_.1 n YJ _ _ ?_ ?_ ?_ ?_ _ _ ?_); (iterate 4 exact zs); simp only [zgI]; intro e m; exact zs) | (exact zs)
theorem zIu (a : Int) (b : (Sl zae)) (c : Int) (d : Val) (h : b.l.length < big - 1) : Ev cfg 137 [(.int .i64 a), (dSl zao b), (.int .i64 c), (.agg (zd0 d))] (.bool (zk1 a b c d)) := zIn (zB2 (kk := big) a b c d h YJ)
attribute [go_sem] func52 f52 func101 f101
def zjx (c16 : Sl zam) (c17 : Int) (c19 : zam) (K : YK) (R : YL) : Out (Bool) (Int) -> Prop
 | .ret r => ∀ (e : Env) (m : Mem), e 2 = (.bool r) -> K .ret ⟨e, m⟩ = R
 | .done q => ∀ (e : Env) (m : Mem), e 0 = (dSl zaq c16) -> e 3 = (.int .i64 c17) -> K (.exit 2) ⟨e, m⟩ = R
noncomputable def zCb : Code := za4 f52 [1, 1, 0, 1, 0, 0, 1, 0, 0, 1, 1, 1, 0, 0]
abbrev zQa (sz : Nat) : Prop := (∀ (a : (Sl zam)), zak a.l < sz -> Ev cfg 52 [(dSl zaq a)] (.bool (zb2 a))) /\ (∀ (a : zas), zby a < sz -> Ev cfg 101 [(.agg (zbQ a))] (.bool (zgU a)))
theorem zuo {c16 : Sl zam} {c17 : Int} {c19 : zam} {sz : Nat} (hg : zQa sz) {kk : Nat} : ∀ {k : Nat} {s18 : Int} {out : Out (Bool) (Int)}, zdI c16 c17 c19 sz kk k s18 = some out -> ∃ N, ∀ n, N <= n -> ∀ k, N <= k -> ∀ (e : Env) (m : Mem), e 0 = (dSl zaq c16) -> e 3 = (.int .i64 c17) -> zb9 (e 4) m 4 2 (zaq c19) -> e 5 = (.int .i64 s18) -> ∀ (K : YK) (R : YL), zjx c16 c17 c19 K R out -> zbU (zbt cfg (dfn cfg n) n zCb) K k ⟨e, m⟩ = R := by
 have ⟨_, hVA⟩ := hg
 intro k
 induction k with
 | zero => intro s18 out h; cases h
 | succ k ih => ?_
 intro s18 out h
 have ih := fun x0 {out} => @ih x0 out
 unfold zdI at h
 have E := evT
 rcases zac h with ⟨h1_, h⟩ | ⟨h1_, h⟩
 obtain ⟨y20, h2_, h⟩ := zaa h
 obtain ⟨_, h3_⟩ := zaA h2_
 have h3_ := zav h3_ zaz
 rcases zac h with ⟨h4_, h⟩ | ⟨h4_, h⟩
 have b5_ := zan h4_
 obtain ⟨b6_, b7_⟩ := zaK b5_
 rcases zbj b7_ with b8_ | ⟨b8_, b9_⟩
 obtain ⟨_, h10_, h⟩ := zaa h
 have E := E.and (hVA y20.atom (zah h10_))
 rcases zac h with ⟨h11_, h⟩ | ⟨h11_, h⟩
 obtain ⟨y22, h12_, h⟩ := zaa h
 obtain ⟨_, h13_⟩ := zaA h12_
 have h13_ := zav h13_ zaz
 obtain ⟨_, h14_, h⟩ := zaa h
 have E := E.and (zjf y22.atom y20.atom (zah h14_))
 rcases zac h with ⟨h15_, h⟩ | ⟨h15_, h⟩
 rcases zbL h15_ with b16_ | ⟨b16_, b17_⟩
 have b18_ := zan b16_
 rotate_left
 have b19_ := zal b16_
 rotate_left
 obtain ⟨b20_, b21_⟩ := zaK h15_
 have b22_ := zal b20_
 rotate_left
 rcases zac h with ⟨h23_, h⟩ | ⟨h23_, h⟩
 have b24_ := zan h23_
 have b25_ := zal b24_
 rotate_left
 have b26_ := zal h23_
 have b27_ := zan b26_
 rotate_left
 obtain ⟨_, h28_, h⟩ := zaa h
 have E := E.and (hVA y20.atom (zah h28_))
 rcases zac h with ⟨h29_, h⟩ | ⟨h29_, h⟩
 obtain ⟨y22, h30_, h⟩ := zaa h
 obtain ⟨_, h31_⟩ := zaA h30_
 have h31_ := zav h31_ zaz
 obtain ⟨_, h32_, h⟩ := zaa h
 have E := E.and (zjf y22.atom y20.atom (zah h32_))
 rcases zac h with ⟨h33_, h⟩ | ⟨h33_, h⟩
 rcases zbL h33_ with b34_ | ⟨b34_, b35_⟩
 have b36_ := zan b34_
 rotate_left
 have b37_ := zal b34_
 rotate_left
 obtain ⟨b38_, b39_⟩ := zaK h33_
 have b40_ := zal b38_
 rotate_left
 rcases zac h with ⟨h41_, h⟩ | ⟨h41_, h⟩
 have b42_ := zan h41_
 have b43_ := zal b42_
 rotate_left
 have b44_ := zal h41_
 have b45_ := zan b44_
 rotate_left
 have b46_ := zal h4_
 rcases zbL b46_ with b47_ | ⟨b47_, b48_⟩
 rcases yG ((decide (1 < y20.exp))) with h51_ | h51_
 rotate_left
 rotate_left
 obtain ⟨b49_, b50_⟩ := zbG b48_
 all_goals
  first | (cases h; refine E.l fun n k x => ?_) | refine E.c (ih _ h) fun n k x I => ?_
  intro e m i0 i1 i2 i3 K R hK
  obtain ⟨_, _, _⟩ := i2
  rw [zap]
  (conv => lhs; arg 4; whnf)
  first | (refine zt ?_; simp only [zjx] at hK; refine hK _ _ ?_; exact zs) | (refine zt ?_; refine zaf (I.1 _ _ ?_ ?_ ?_ ?_ _ _ hK); (iterate 4 exact zs)) | (refine zt ?_; simp only [zjx] at hK; refine hK _ _ ?_ ?_; (iterate 2 exact zs))
def zjy (c7 : Sl zam) (c8 : Int) (c10 : zam) (K : YK) (R : YL) : Out (Bool) (Int) -> Prop
 | .ret r => ∀ (e : Env) (m : Mem), e 2 = (.bool r) -> K .ret ⟨e, m⟩ = R
 | .done q => ∀ (e : Env) (m : Mem), e 0 = (dSl zaq c7) -> e 3 = (.int .i64 c8) -> K (.exit 2) ⟨e, m⟩ = R
noncomputable def zCc : Code := za4 f52 [1, 1, 0, 1, 0, 0, 1, 0, 0, 1, 1, 1, 0, 0]
theorem zup {c7 : Sl zam} {c8 : Int} {c10 : zam} {sz : Nat} (hg : zQa sz) {kk : Nat} : ∀ {k : Nat} {s9 : Int} {out : Out (Bool) (Int)}, zhH c7 c8 c10 sz kk k s9 = some out -> ∃ N, ∀ n, N <= n -> ∀ k, N <= k -> ∀ (e : Env) (m : Mem), e 0 = (dSl zaq c7) -> e 3 = (.int .i64 c8) -> zb9 (e 4) m 4 2 (zaq c10) -> e 5 = (.int .i64 s9) -> ∀ (K : YK) (R : YL), zjy c7 c8 c10 K R out -> zbU (zbt cfg (dfn cfg n) n zCc) K k ⟨e, m⟩ = R := by
 have ⟨_, hVA⟩ := hg
 intro k
 induction k with
 | zero => intro s9 out h; cases h
 | succ k ih => ?_
 intro s9 out h
 have ih := fun x0 {out} => @ih x0 out
 unfold zhH at h
 have E := evT
 rcases zac h with ⟨h52_, h⟩ | ⟨h52_, h⟩
 obtain ⟨y11, h53_, h⟩ := zaa h
 obtain ⟨_, h54_⟩ := zaA h53_
 have h54_ := zav h54_ zaz
 rcases zac h with ⟨h55_, h⟩ | ⟨h55_, h⟩
 have b56_ := zan h55_
 obtain ⟨b57_, b58_⟩ := zaK b56_
 rcases zbj b58_ with b59_ | ⟨b59_, b60_⟩
 obtain ⟨_, h61_, h⟩ := zaa h
 have E := E.and (hVA y11.atom (zah h61_))
 rcases zac h with ⟨h62_, h⟩ | ⟨h62_, h⟩
 obtain ⟨y13, h63_, h⟩ := zaa h
 obtain ⟨_, h64_⟩ := zaA h63_
 have h64_ := zav h64_ zaz
 obtain ⟨_, h65_, h⟩ := zaa h
 have E := E.and (zjf y13.atom y11.atom (zah h65_))
 rcases zac h with ⟨h66_, h⟩ | ⟨h66_, h⟩
 rcases zbL h66_ with b67_ | ⟨b67_, b68_⟩
 have b69_ := zan b67_
 rotate_left
 have b70_ := zal b67_
 rotate_left
 obtain ⟨b71_, b72_⟩ := zaK h66_
 have b73_ := zal b71_
 rotate_left
 rcases zac h with ⟨h74_, h⟩ | ⟨h74_, h⟩
 have b75_ := zan h74_
 have b76_ := zal b75_
 rotate_left
 have b77_ := zal h74_
 have b78_ := zan b77_
 rotate_left
 obtain ⟨_, h79_, h⟩ := zaa h
 have E := E.and (hVA y11.atom (zah h79_))
 rcases zac h with ⟨h80_, h⟩ | ⟨h80_, h⟩
 obtain ⟨y13, h81_, h⟩ := zaa h
 obtain ⟨_, h82_⟩ := zaA h81_
 have h82_ := zav h82_ zaz
 obtain ⟨_, h83_, h⟩ := zaa h
 have E := E.and (zjf y13.atom y11.atom (zah h83_))
 rcases zac h with ⟨h84_, h⟩ | ⟨h84_, h⟩
 rcases zbL h84_ with b85_ | ⟨b85_, b86_⟩
 have b87_ := zan b85_
 rotate_left
 have b88_ := zal b85_
 rotate_left
 obtain ⟨b89_, b90_⟩ := zaK h84_
 have b91_ := zal b89_
 rotate_left
 rcases zac h with ⟨h92_, h⟩ | ⟨h92_, h⟩
 have b93_ := zan h92_
 have b94_ := zal b93_
 rotate_left
 have b95_ := zal h92_
 have b96_ := zan b95_
 rotate_left
 have b97_ := zal h55_
 rcases zbL b97_ with b98_ | ⟨b98_, b99_⟩
 rcases yG ((decide (1 < y11.exp))) with h102_ | h102_
 rotate_left
 rotate_left
 obtain ⟨b100_, b101_⟩ := zbG b99_
 all_goals
  first | (cases h; refine E.l fun n k x => ?_) | refine E.c (ih _ h) fun n k x I => ?_
  intro e m i0 i1 i2 i3 K R hK
  obtain ⟨_, _, _⟩ := i2
  rw [zap]
  (conv => lhs; arg 4; whnf)
  first | (refine zt ?_; simp only [zjy] at hK; refine hK _ _ ?_; exact zs) | (refine zt ?_; refine zaf (I.1 _ _ ?_ ?_ ?_ ?_ _ _ hK); (iterate 4 exact zs)) | (refine zt ?_; simp only [zjy] at hK; refine hK _ _ ?_ ?_; (iterate 2 exact zs))
def zgJ (c2 : Sl zam) (K : YK) (R : YL) : Out (Bool) (Int) -> Prop
 | .ret r => ∀ (e : Env) (m : Mem), e 2 = (.bool r) -> K .ret ⟨e, m⟩ = R
 | .done q => ∀ (e : Env) (m : Mem), K (.exit 0) ⟨e, m⟩ = R
noncomputable def zCd : Code := za4 f52 [1, 1, 0, 1, 0, 0]
theorem zuq {c2 : Sl zam} {sz : Nat} (hg : zQa sz) {kk : Nat} : ∀ {k : Nat} {s3 : Int} {out : Out (Bool) (Int)}, zfB c2 sz kk k s3 = some out -> ∃ N, ∀ n, N <= n -> ∀ k, N <= k -> ∀ (e : Env) (m : Mem), e 0 = (dSl zaq c2) -> e 3 = (.int .i64 s3) -> ∀ (K : YK) (R : YL), zgJ c2 K R out -> zbU (zbt cfg (dfn cfg n) n zCd) K k ⟨e, m⟩ = R := by
 intro k
 induction k with
 | zero => intro s3 out h; cases h
 | succ k ih => ?_
 intro s3 out h
 have ih := fun x0 {out} => @ih x0 out
 unfold zfB at h
 have E := evT
 rcases zac h with ⟨h103_, h⟩ | ⟨h103_, h⟩
 obtain ⟨y4, h104_, h⟩ := zaa h
 obtain ⟨_, h105_⟩ := zaA h104_
 have h105_ := zav h105_ zaq
 rcases zac h with ⟨h106_, h⟩ | ⟨h106_, h⟩
 obtain ⟨y5, h107_, h⟩ := zaa h
 obtain ⟨_, h108_⟩ := zaA h107_
 have h108_ := zav h108_ zaq
 obtain ⟨_, h109_, h⟩ := zaa h
 have E := E.and (ztX y5.factors y4.factors (zah h109_))
 rcases zac h with ⟨h110_, h⟩ | ⟨h110_, h⟩
 rcases zbL h110_ with b111_ | ⟨b111_, b112_⟩
 rcases zbL b111_ with b113_ | ⟨b113_, b114_⟩
 rotate_left
 rotate_left
 obtain ⟨b115_, b116_⟩ := zaK b111_
 rotate_left
 obtain ⟨b117_, b118_⟩ := zaK h110_
 obtain ⟨b119_, b120_⟩ := zaK b117_
 rcases zaw h with ⟨r123_, o122_, h⟩ | ⟨q15, o122_, h⟩
 obtain ⟨_, l121_, E⟩ := E.lp (zup hg o122_)
 rotate_left
 obtain ⟨_, l124_, E⟩ := E.lp (zup hg o122_)
 rotate_left
 rcases zac h with ⟨h125_, h⟩ | ⟨h125_, h⟩
 have b126_ := zan h125_
 obtain ⟨b127_, b128_⟩ := zaK b126_
 rcases zaw h with ⟨r131_, o130_, h⟩ | ⟨q24, o130_, h⟩
 obtain ⟨_, l129_, E⟩ := E.lp (zuo hg o130_)
 rotate_left
 obtain ⟨_, l132_, E⟩ := E.lp (zuo hg o130_)
 rotate_left
 have b133_ := zal h125_
 rcases zbL b133_ with b134_ | ⟨b134_, b135_⟩
 all_goals
  first | (cases h; refine E.l fun n k x => ?_) | refine E.c (ih _ h) fun n k x I => ?_
  intro e m i0 i1 K R hK
  rw [zap]
  (conv => lhs; arg 4; whnf)
  first | (have := l121_; refine zt ?_; refine zaf (l121_.1 n YJ _ _ ?_ ?_ ?_ ?_ _ _ ?_); (iterate 4 exact zs); simp only [zjy]; intro e m i0; (try refine zt ?_); simp only [zgJ] at hK; refine hK _ _ ?_; exact zs) | (have := l124_; refine zt ?_; refine zaf (l124_.1 n YJ _ _ ?_ ?_ ?_ ?_ _ _ ?_); (iterate 4 exact zs); simp only [zjy]; intro e m i0 i1; (try refine zt ?_); refine zaf (I.1 _ _ ?_ ?_ _ _ hK); (iterate 2 exact zs)) | (have := l129_; refine zt ?_; refine zaf (l129_.1 n YJ _ _ ?_ ?_ ?_ ?_ _ _ ?_); (iterate 4 exact zs); simp only [zjx]; intro e m i0; (try refine zt ?_); simp only [zgJ] at hK; refine hK _ _ ?_; exact zs) | (have := l132_; refine zt ?_; refine zaf (l132_.1 n YJ _ _ ?_ ?_ ?_ ?_ _ _ ?_); (iterate 4 exact zs); simp only [zjx]; intro e m i0 i1; (try refine zt ?_); refine zaf (I.1 _ _ ?_ ?_ _ _ hK); (iterate 2 exact zs)) | ((try refine zt ?_); simp only [zgJ] at hK; refine hK _ _ ?_; exact zs) | ((try refine zt ?_); simp only [zgJ] at hK; refine hK _ _)
theorem zIo {kk : Nat} {a : (Sl zam)} {sz : Nat} (hg : zQa sz) {r : Bool} (h : zq2 kk sz a = some r) : Ev cfg 52 [(dSl zaq a)] (.bool r) := by
 unfold zq2 at h
 have E := evT
 obtain ⟨_, h136_, h⟩ := zaa h
 have E := E.and (zLf a (zah h136_))
 rcases zac h with ⟨h137_, h⟩ | ⟨h137_, h⟩
 have b138_ := zan h137_
 rotate_left
 have b139_ := zal h137_
 rcases zaw h with ⟨r142_, o141_, h⟩ | ⟨q25, o141_, h⟩
 obtain ⟨_, l140_, E⟩ := E.lp (zuq hg o141_)
 rotate_left
 obtain ⟨_, l143_, E⟩ := E.lp (zuq hg o141_)
 all_goals
  cases h
  refine E.s fun n x => ?_
  first | (have := l140_; refine zt ?_; refine zaf (l140_.1 n YJ _ _ ?_ ?_ _ _ ?_); (iterate 2 exact zs); simp only [zgJ]; intro e m i0; exact zs) | (have := l143_; refine zt ?_; refine zaf (l143_.1 n YJ _ _ ?_ ?_ _ _ ?_); (iterate 2 exact zs); simp only [zgJ]; intro e m; exact zs) | (exact zs)
def zgy (c15 : zas) (K : YK) (R : YL) : Out (Bool) (Int) -> Prop
 | .ret r => ∀ (e : Env) (m : Mem), e 2 = (.bool r) -> K .ret ⟨e, m⟩ = R
 | .done q => ∀ (e : Env) (m : Mem), K (.exit 3) ⟨e, m⟩ = R
noncomputable def zwR : Code := za4 f101 [1, 1, 1, 1, 0, 1, 0, 1, 1, 1, 1, 1, 1, 1, 0, 1, 0, 1, 0, 0]
theorem zot {c15 : zas} {sz : Nat} (hg : zQa sz) {kk : Nat} : ∀ {k : Nat} {s14 : Int} {out : Out (Bool) (Int)}, zcY c15 sz kk k s14 = some out -> ∃ N, ∀ n, N <= n -> ∀ k, N <= k -> ∀ (e : Env) (m : Mem), zb9 (e 1) m 1 10 (zbQ c15) -> e 4 = (.int .i64 s14) -> ∀ (K : YK) (R : YL), zgy c15 K R out -> zbU (zbt cfg (dfn cfg n) n zwR) K k ⟨e, m⟩ = R := by
 have ⟨hV, _⟩ := hg
 intro k
 induction k with
 | zero => intro s14 out h; cases h
 | succ k ih => ?_
 intro s14 out h
 have ih := fun x0 {out} => @ih x0 out
 unfold zcY at h
 have E := evT
 rcases zac h with ⟨h1_, h⟩ | ⟨h1_, h⟩
 obtain ⟨y16, h2_, h⟩ := zaa h
 obtain ⟨_, h3_⟩ := zaA h2_
 have h3_ := zav h3_ zao
 rcases zac h with ⟨h4_, h⟩ | ⟨h4_, h⟩
 have b5_ := zan h4_
 obtain ⟨_, h6_, h⟩ := zaa h
 have E := E.and (hV y16.ann (zah h6_))
 rcases zac h with ⟨h7_, h⟩ | ⟨h7_, h⟩
 obtain ⟨y18, h8_, h⟩ := zaa h
 have h8_ : zfr prog (some (.int .i64 (IntKind.wrap .i64 (s14 - 1)))) (some (.int .i64 s14)) none (dSl zao c15.items) (.slice 146) = pure (dSl zao y18) := zmx h8_ zS3 zqr
 obtain ⟨y19, h9_, h⟩ := zaa h
 have h9_ : zfr prog (some (.int .i64 s14)) (some (.int .i64 (IntKind.wrap .i64 (s14 + 1)))) none (dSl zao c15.items) (.slice 146) = pure (dSl zao y19) := zmx h9_ zS3 zqr
 obtain ⟨_, h10_, h⟩ := zaa h
 have E := E.and (zwM y18 y19 (zah h10_))
 rcases zac h with ⟨h11_, h⟩ | ⟨h11_, h⟩
 rcases zbL h11_ with b12_ | ⟨b12_, b13_⟩
 have b14_ := zan b12_
 rotate_left
 have b15_ := zal b12_
 rotate_left
 obtain ⟨b16_, b17_⟩ := zaK h11_
 have b18_ := zal b16_
 rotate_left
 rcases zac h with ⟨h19_, h⟩ | ⟨h19_, h⟩
 have b20_ := zan h19_
 have b21_ := zal b20_
 rotate_left
 have b22_ := zal h19_
 have b23_ := zan b22_
 rotate_left
 have b24_ := zal h4_
 all_goals
  first | (cases h; refine E.l fun n k x => ?_) | refine E.c (ih _ h) fun n k x I => ?_
  intro e m i0 i1 K R hK
  obtain ⟨_, _, _⟩ := i0
  rw [zap]
  (conv => lhs; arg 4; whnf)
  first | (refine zt ?_; simp only [zgy] at hK; refine hK _ _ ?_; exact zs) | (refine zt ?_; refine zaf (I.1 _ _ ?_ ?_ _ _ hK); (iterate 2 exact zs)) | (refine zt ?_; simp only [zgy] at hK; refine hK _ _)
def zgz (c2 : zas) (K : YK) (R : YL) : Out (Bool) (Int) -> Prop
 | .ret r => ∀ (e : Env) (m : Mem), e 2 = (.bool r) -> K .ret ⟨e, m⟩ = R
 | .done q => ∀ (e : Env) (m : Mem), zb9 (e 1) m 1 10 (zbQ c2) -> K (.exit 0) ⟨e, m⟩ = R
noncomputable def zwS : Code := za4 f101 [1, 1, 1, 0, 1, 0, 0]
theorem zou {c2 : zas} {sz : Nat} (hg : zQa sz) {kk : Nat} : ∀ {k : Nat} {s1 : Int} {out : Out (Bool) (Int)}, zdw c2 sz kk k s1 = some out -> ∃ N, ∀ n, N <= n -> ∀ k, N <= k -> ∀ (e : Env) (m : Mem), zb9 (e 1) m 1 10 (zbQ c2) -> e 3 = (.int .i64 s1) -> ∀ (K : YK) (R : YL), zgz c2 K R out -> zbU (zbt cfg (dfn cfg n) n zwS) K k ⟨e, m⟩ = R := by
 have ⟨hV, _⟩ := hg
 intro k
 induction k with
 | zero => intro s1 out h; cases h
 | succ k ih => ?_
 intro s1 out h
 have ih := fun x0 {out} => @ih x0 out
 unfold zdw at h
 have E := evT
 rcases zac h with ⟨h25_, h⟩ | ⟨h25_, h⟩
 obtain ⟨y3, h26_, h⟩ := zaa h
 obtain ⟨_, h27_⟩ := zaA h26_
 have h27_ := zav h27_ (cSl zaq)
 rcases zac h with ⟨h28_, h⟩ | ⟨h28_, h⟩
 have b29_ := zan h28_
 obtain ⟨_, h30_, h⟩ := zaa h
 have E := E.and (hV y3 (zah h30_))
 rcases zac h with ⟨h31_, h⟩ | ⟨h31_, h⟩
 have b32_ := zan h31_
 rotate_left
 have b33_ := zal h31_
 rotate_left
 have b34_ := zal h28_
 all_goals
  first | (cases h; refine E.l fun n k x => ?_) | refine E.c (ih _ h) fun n k x I => ?_
  intro e m i0 i1 K R hK
  obtain ⟨_, _, _⟩ := i0
  rw [zap]
  (conv => lhs; arg 4; whnf)
  first | (refine zt ?_; simp only [zgz] at hK; refine hK _ _ ?_; exact zs) | (refine zt ?_; refine zaf (I.1 _ _ ?_ ?_ _ _ hK); (iterate 2 exact zs)) | (refine zt ?_; simp only [zgz] at hK; refine hK _ _ ?_; exact zs)
theorem zAR {kk : Nat} {a : zas} {sz : Nat} (hg : zQa sz) {r : Bool} (h : zkR kk sz a = some r) : Ev cfg 101 [(.agg (zbQ a))] (.bool r) := by
 unfold zkR at h
 have E := evT
 rcases zac h with ⟨h35_, h⟩ | ⟨h35_, h⟩
 have E := E.and (zra a)
 rcases yG ((decide (1 <= a.row.table))) with h36_ | h36_
 rcases yG ((decide (1 <= a.row.seq))) with h37_ | h37_
 rcases yG (((a.args.l.length : Int) == 0)) with h38_ | h38_
 rotate_left
 rotate_left
 rotate_left
 rotate_left
 rcases zac h with ⟨h39_, h⟩ | ⟨h39_, h⟩
 have b40_ := zan h39_
 rcases zbj b40_ with b41_ | ⟨b41_, b42_⟩
 rotate_left
 rotate_left
 have b43_ := zal h39_
 obtain ⟨b44_, b45_⟩ := zbG b43_
 rcases zaw h with ⟨r48_, o47_, h⟩ | ⟨q5, o47_, h⟩
 obtain ⟨_, l46_, E⟩ := E.lp (zou hg o47_)
 rotate_left
 obtain ⟨_, l49_, E⟩ := E.lp (zou hg o47_)
 rcases zac h with ⟨h50_, h⟩ | ⟨h50_, h⟩
 have E := E.and (zra a)
 rcases zac h with ⟨h51_, h⟩ | ⟨h51_, h⟩
 obtain ⟨b52_, b53_⟩ := zbG h51_
 obtain ⟨y6, h54_, h⟩ := zaa h
 have h54_ := zav h54_ (cSl zaq)
 obtain ⟨y7, h55_, h⟩ := zaa h
 have h55_ := zav h55_ (cSl zaq)
 obtain ⟨_, h56_, h⟩ := zaa h
 have E := E.and (zCW y6 y7 (zah h56_))
 rotate_left
 rcases zbj h51_ with b57_ | ⟨b57_, b58_⟩
 rotate_left
 rotate_left
 rcases zac h with ⟨h59_, h⟩ | ⟨h59_, h⟩
 have E := E.and (zra a)
 rcases zac h with ⟨h60_, h⟩ | ⟨h60_, h⟩
 obtain ⟨b61_, b62_⟩ := zbG h60_
 obtain ⟨y9, h63_, h⟩ := zaa h
 have h63_ := zav h63_ (cSl zaq)
 rcases zac h with ⟨h64_, h⟩ | ⟨h64_, h⟩
 obtain ⟨_, h65_, h⟩ := zaa h
 have E := E.and (zuu y9 (zah h65_))
 rcases zac h with ⟨h66_, h⟩ | ⟨h66_, h⟩
 have b67_ := zan h66_
 have E := E.and (zyG y9)
 rotate_left
 have b68_ := zal h66_
 rotate_left
 have E := E.and (zyG y9)
 rotate_left
 rcases zbj h60_ with b69_ | ⟨b69_, b70_⟩
 rotate_left
 rotate_left
 rcases zac h with ⟨h71_, h⟩ | ⟨h71_, h⟩
 have E := E.and (zra a)
 rcases zac h with ⟨h72_, h⟩ | ⟨h72_, h⟩
 obtain ⟨b73_, b74_⟩ := zbG h72_
 obtain ⟨y11, h75_, h⟩ := zaa h
 have h75_ := zav h75_ (cSl zaq)
 obtain ⟨_, h76_, h⟩ := zaa h
 have E := E.and (zuu y11 (zah h76_))
 rotate_left
 rcases zbj h72_ with b77_ | ⟨b77_, b78_⟩
 rotate_left
 rotate_left
 rcases zac h with ⟨h79_, h⟩ | ⟨h79_, h⟩
 rcases zac h with ⟨h80_, h⟩ | ⟨h80_, h⟩
 have b81_ := zan h80_
 obtain ⟨b82_, b83_⟩ := zaK b81_
 obtain ⟨b84_, b85_⟩ := zaK b82_
 obtain ⟨_, h86_, h⟩ := zaa h
 have E := E.and (zIu a.func a.items a.op a.bound (zah h86_))
 rcases zac h with ⟨h87_, h⟩ | ⟨h87_, h⟩
 have b88_ := zan h87_
 rotate_left
 have b89_ := zal h87_
 rcases zaw h with ⟨r92_, o91_, h⟩ | ⟨q21, o91_, h⟩
 obtain ⟨_, l90_, E⟩ := E.lp (zot hg o91_)
 rotate_left
 obtain ⟨_, l93_, E⟩ := E.lp (zot hg o91_)
 rotate_left
 have b94_ := zal h80_
 rcases zbL b94_ with b95_ | ⟨b95_, b96_⟩
 rcases zbL b95_ with b97_ | ⟨b97_, b98_⟩
 rotate_left
 rotate_left
 obtain ⟨b99_, b100_⟩ := zaK b95_
 all_goals
  cases h
  refine E.s fun n x => ?_
  first | (have := l46_; refine zt ?_; refine zaf (l46_.1 n YJ _ _ ?_ ?_ _ _ ?_); (iterate 2 exact zs); simp only [zgz]; intro e m i0; exact zs) | (have := l49_; refine zt ?_; refine zaf (l49_.1 n YJ _ _ ?_ ?_ _ _ ?_); (iterate 2 exact zs); simp only [zgz]; intro e m i0; obtain ⟨_, _, _⟩ := i0; (first | (have := l90_; (try refine zt ?_); refine zaf (l90_.1 n YJ _ _ ?_ ?_ _ _ ?_); (iterate 2 exact zs); simp only [zgy]; intro e m i0; exact zs) | (have := l93_; (try refine zt ?_); refine zaf (l93_.1 n YJ _ _ ?_ ?_ _ _ ?_); (iterate 2 exact zs); simp only [zgy]; intro e m; exact zs) | (exact zs))) | (exact zs)
theorem zDr : ∀ s : Nat, s < big -> zQa s := by
 intro s
 induction s with
 | zero => intro _; exact ⟨fun _ h => absurd h YJ, fun _ h => absurd h YJ⟩
 | succ s ih =>
   intro hb
   have hg := ih YJ
   exact ⟨
    fun a h => zIo (sz := s) hg (zB3 (kk := s + 1) (sz := s) YJ YJ YJ),
    fun a h => zAR (sz := s) hg (zwG (kk := s + 1) (sz := s) YJ YJ YJ)⟩
theorem zBg (a : (Sl zam)) (h : zak a.l < big - 1) : Ev cfg 52 [(dSl zaq a)] (.bool (zb2 a)) := (zDr (big - 1) (by unfold big; omega)).1 a h
attribute [go_sem] func42 f42 func72 f72 func73 f73 func74 f74 func75 f75 func91 f91 func115 f115 func116 f116 func123 f123
theorem zqO {kk : Nat} {a : zaj} {r : Bool} (h : zhK kk a = some r) : Ev cfg 75 [(.agg (zaz a))] (.bool r) := by
 unfold zhK at h
 have E := evT
 rcases yG ((decide (64 < a.exp))) with h1_ | h1_
 all_goals
  cases h
  refine E.s fun n x => ?_
  exact zs
theorem zrc (a : zaj) : Ev cfg 75 [(.agg (zaz a))] (.bool (zrs a)) := zqO (zn0 0 a)
theorem znY {kk : Nat} {a : zam} {r : Bool} (h : zgk kk a = some r) : Ev cfg 123 [(.agg (zaq a))] (.bool r) := by
 unfold zgk at h
 have E := evT
 cases h
 refine E.s fun n x => ?_
 exact zs
theorem zn7 (a : zam) : Ev cfg 123 [(.agg (zaq a))] (.bool (zBw a)) := znY (zmg 0 a)
def za1 (c1 : Sl zaj) (c2 : Int) (K : YK) (R : YL) : Out (Int) (Int) -> Prop
 | .ret r => ∀ (e : Env) (m : Mem), e 4 = (.int .i64 r) -> K .ret ⟨e, m⟩ = R
 | .done q => ∀ (e : Env) (m : Mem), K (.exit 0) ⟨e, m⟩ = R
noncomputable def zfJ : Code := za4 f116 [1, 0, 1, 0, 0]
theorem zcD {c1 : Sl zaj} {c2 : Int} {kk : Nat} : ∀ {k : Nat} {s3 : Int} {out : Out (Int) (Int)}, zaM c1 c2 kk k s3 = some out -> ∃ N, ∀ n, N <= n -> ∀ k, N <= k -> ∀ (e : Env) (m : Mem), e 0 = (dSl zaz c1) -> e 1 = (.fn (.func 75) [] []) -> e 7 = (.int .i64 c2) -> e 8 = (.int .i64 s3) -> ∀ (K : YK) (R : YL), za1 c1 c2 K R out -> zbU (zbt cfg (dfn cfg n) n zfJ) K k ⟨e, m⟩ = R := by
 intro k
 induction k with
 | zero => intro s3 out h; cases h
 | succ k ih => ?_
 intro s3 out h
 have ih := fun x0 {out} => @ih x0 out
 unfold zaM at h
 have E := evT
 rcases zac h with ⟨h1_, h⟩ | ⟨h1_, h⟩
 obtain ⟨y4, h2_, h⟩ := zaa h
 obtain ⟨_, h3_⟩ := zaA h2_
 have h3_ := zav h3_ zaz
 have E := E.and (zrc y4)
 rcases zac h with ⟨h4_, h⟩ | ⟨h4_, h⟩
 all_goals
  first | (cases h; refine E.l fun n k x => ?_) | refine E.c (ih _ h) fun n k x I => ?_
  intro e m i0 i1 i2 i3 K R hK
  rw [zap]
  (conv => lhs; arg 4; whnf)
  first | (refine zt ?_; simp only [za1] at hK; refine hK _ _ ?_; exact zs) | (refine zt ?_; refine zaf (I.1 _ _ ?_ ?_ ?_ ?_ _ _ hK); (iterate 4 exact zs)) | (refine zt ?_; simp only [za1] at hK; refine hK _ _)
theorem zgd {kk : Nat} {a : (Sl zaj)} {r : Int} (h : zbx kk a = some r) : Ev cfg 116 [(dSl zaz a), (.fn (.func 75) [] [])] (.int .i64 r) := by
 unfold zbx at h
 have E := evT
 rcases zaw h with ⟨r7_, o6_, h⟩ | ⟨q5, o6_, h⟩
 obtain ⟨_, l5_, E⟩ := E.lp (zcD o6_)
 rotate_left
 obtain ⟨_, l8_, E⟩ := E.lp (zcD o6_)
 all_goals
  cases h
  refine E.s fun n x => ?_
  first | (have := l5_; refine zt ?_; refine zaf (l5_.1 n YJ _ _ ?_ ?_ ?_ ?_ _ _ ?_); (iterate 4 exact zs); simp only [za1]; intro e m i0; exact zs) | (have := l8_; refine zt ?_; refine zaf (l8_.1 n YJ _ _ ?_ ?_ ?_ ?_ _ _ ?_); (iterate 4 exact zs); simp only [za1]; intro e m; exact zs)
theorem zge (a : (Sl zaj)) (h : a.l.length < big - 1) : Ev cfg 116 [(dSl zaz a), (.fn (.func 75) [] [])] (.int .i64 (zyM zrs a)) := zgd (zfC (kk := big) a h YJ)
theorem zfw {kk : Nat} {a : (Sl zaj)} {r : Bool} (h : zbr kk a = some r) : Ev cfg 74 [(dSl zaz a), (.fn (.func 75) [] [])] (.bool r) := by
 unfold zbr at h
 have E := evT
 obtain ⟨_, h1_, h⟩ := zaa h
 have E := E.and (zge a (zah h1_))
 cases h
 refine E.s fun n x => ?_
 exact zs
theorem zfI (a : (Sl zaj)) (h : a.l.length < big - 1) : Ev cfg 74 [(dSl zaz a), (.fn (.func 75) [] [])] (.bool (zwZ zrs a)) := zfw (zeN (kk := big) a h YJ)
theorem zsF {kk : Nat} {a : zam} {r : Bool} (h : zgC kk a = some r) : Ev cfg 73 [(.agg (zaq a))] (.bool r) := by
 unfold zgC at h
 have E := evT
 rcases zac h with ⟨h1_, h⟩ | ⟨h1_, h⟩
 have b2_ := zan h1_
 obtain ⟨_, h3_, h⟩ := zaa h
 have E := E.and (zfI a.factors (zah h3_))
 rotate_left
 have b4_ := zal h1_
 all_goals
  cases h
  refine E.s fun n x => ?_
  exact zs
theorem zs0 (a : zam) (h : zcH a < big - 1) : Ev cfg 73 [(.agg (zaq a))] (.bool (zrr a)) := zsF (zpO (kk := big) a h YJ)
def za6 (c1 : Sl zam) (c2 : Int) (K : YK) (R : YL) : Out (Int) (Int) -> Prop
 | .ret r => ∀ (e : Env) (m : Mem), e 4 = (.int .i64 r) -> K .ret ⟨e, m⟩ = R
 | .done q => ∀ (e : Env) (m : Mem), K (.exit 0) ⟨e, m⟩ = R
noncomputable def zgm : Code := za4 f115 [1, 0, 1, 0, 0]
theorem zc0 {c1 : Sl zam} {c2 : Int} {kk : Nat} : ∀ {k : Nat} {s3 : Int} {out : Out (Int) (Int)}, zaX c1 c2 kk k s3 = some out -> ∃ N, ∀ n, N <= n -> ∀ k, N <= k -> ∀ (e : Env) (m : Mem), e 0 = (dSl zaq c1) -> e 1 = (.fn (.func 73) [] []) -> e 7 = (.int .i64 c2) -> e 8 = (.int .i64 s3) -> ∀ (K : YK) (R : YL), za6 c1 c2 K R out -> zbU (zbt cfg (dfn cfg n) n zgm) K k ⟨e, m⟩ = R := by
 intro k
 induction k with
 | zero => intro s3 out h; cases h
 | succ k ih => ?_
 intro s3 out h
 have ih := fun x0 {out} => @ih x0 out
 unfold zaX at h
 have E := evT
 rcases zac h with ⟨h1_, h⟩ | ⟨h1_, h⟩
 obtain ⟨y4, h2_, h⟩ := zaa h
 obtain ⟨_, h3_⟩ := zaA h2_
 have h3_ := zav h3_ zaq
 obtain ⟨_, h4_, h⟩ := zaa h
 have E := E.and (zs0 y4 (zah h4_))
 rcases zac h with ⟨h5_, h⟩ | ⟨h5_, h⟩
 all_goals
  first | (cases h; refine E.l fun n k x => ?_) | refine E.c (ih _ h) fun n k x I => ?_
  intro e m i0 i1 i2 i3 K R hK
  rw [zap]
  (conv => lhs; arg 4; whnf)
  first | (refine zt ?_; simp only [za6] at hK; refine hK _ _ ?_; exact zs) | (refine zt ?_; refine zaf (I.1 _ _ ?_ ?_ ?_ ?_ _ _ hK); (iterate 4 exact zs)) | (refine zt ?_; simp only [za6] at hK; refine hK _ _)
theorem zgV {kk : Nat} {a : (Sl zam)} {r : Int} (h : zbH kk a = some r) : Ev cfg 115 [(dSl zaq a), (.fn (.func 73) [] [])] (.int .i64 r) := by
 unfold zbH at h
 have E := evT
 rcases zaw h with ⟨r8_, o7_, h⟩ | ⟨q6, o7_, h⟩
 obtain ⟨_, l6_, E⟩ := E.lp (zc0 o7_)
 rotate_left
 obtain ⟨_, l9_, E⟩ := E.lp (zc0 o7_)
 all_goals
  cases h
  refine E.s fun n x => ?_
  first | (have := l6_; refine zt ?_; refine zaf (l6_.1 n YJ _ _ ?_ ?_ ?_ ?_ _ _ ?_); (iterate 4 exact zs); simp only [za6]; intro e m i0; exact zs) | (have := l9_; refine zt ?_; refine zaf (l9_.1 n YJ _ _ ?_ ?_ ?_ ?_ _ _ ?_); (iterate 4 exact zs); simp only [za6]; intro e m; exact zs)
theorem zgW (a : (Sl zam)) (h : zak a.l < big - 1) : Ev cfg 115 [(dSl zaq a), (.fn (.func 73) [] [])] (.int .i64 (zyM zrr a)) := zgV (zgj (kk := big) a h YJ)
theorem zgh {kk : Nat} {a : (Sl zam)} {r : Bool} (h : zbz kk a = some r) : Ev cfg 72 [(dSl zaq a), (.fn (.func 73) [] [])] (.bool r) := by
 unfold zbz at h
 have E := evT
 obtain ⟨_, h1_, h⟩ := zaa h
 have E := E.and (zgW a (zah h1_))
 cases h
 refine E.s fun n x => ?_
 exact zs
theorem zgl (a : (Sl zam)) (h : zak a.l < big - 1) : Ev cfg 72 [(dSl zaq a), (.fn (.func 73) [] [])] (.bool (zwZ zrr a)) := zgh (zfS (kk := big) a h YJ)
theorem zuW {kk : Nat} {a : (Sl zam)} {r : Bool} (h : zhL kk a = some r) : Ev cfg 42 [(dSl zaq a)] (.bool r) := by
 unfold zhL at h
 have E := evT
 rcases zac h with ⟨h1_, h⟩ | ⟨h1_, h⟩
 have b2_ := zan h1_
 obtain ⟨_, h3_, h⟩ := zaa h
 have E := E.and (ztY a (zah h3_))
 rcases zac h with ⟨h4_, h⟩ | ⟨h4_, h⟩
 have b5_ := zan h4_
 obtain ⟨_, h6_, h⟩ := zaa h
 have E := E.and (zx5 a (zah h6_))
 rcases zac h with ⟨h7_, h⟩ | ⟨h7_, h⟩
 rotate_left
 obtain ⟨_, h8_, h⟩ := zaa h
 have E := E.and (zgl a (zah h8_))
 rotate_left
 have b9_ := zal h4_
 rotate_left
 have b10_ := zal h1_
 all_goals
  cases h
  refine E.s fun n x => ?_
  exact zs
theorem zu8 (a : (Sl zam)) (h : zak a.l < big - 1) : Ev cfg 42 [(dSl zaq a)] (.bool (zpz a)) := zuW (zrP (kk := big) a h YJ)
def zaZ (c1 : Sl zam) (c2 : Int) (K : YK) (R : YL) : Out (Int) (Int) -> Prop
 | .ret r => ∀ (e : Env) (m : Mem), e 4 = (.int .i64 r) -> K .ret ⟨e, m⟩ = R
 | .done q => ∀ (e : Env) (m : Mem), K (.exit 0) ⟨e, m⟩ = R
noncomputable def zfm : Code := za4 f115 [1, 0, 1, 0, 0]
theorem zcy {c1 : Sl zam} {c2 : Int} {kk : Nat} : ∀ {k : Nat} {s3 : Int} {out : Out (Int) (Int)}, zaL c1 c2 kk k s3 = some out -> ∃ N, ∀ n, N <= n -> ∀ k, N <= k -> ∀ (e : Env) (m : Mem), e 0 = (dSl zaq c1) -> e 1 = (.fn (.func 123) [] []) -> e 7 = (.int .i64 c2) -> e 8 = (.int .i64 s3) -> ∀ (K : YK) (R : YL), zaZ c1 c2 K R out -> zbU (zbt cfg (dfn cfg n) n zfm) K k ⟨e, m⟩ = R := by
 intro k
 induction k with
 | zero => intro s3 out h; cases h
 | succ k ih => ?_
 intro s3 out h
 have ih := fun x0 {out} => @ih x0 out
 unfold zaL at h
 have E := evT
 rcases zac h with ⟨h1_, h⟩ | ⟨h1_, h⟩
 obtain ⟨y4, h2_, h⟩ := zaa h
 obtain ⟨_, h3_⟩ := zaA h2_
 have h3_ := zav h3_ zaq
 have E := E.and (zn7 y4)
 rcases zac h with ⟨h4_, h⟩ | ⟨h4_, h⟩
 all_goals
  first | (cases h; refine E.l fun n k x => ?_) | refine E.c (ih _ h) fun n k x I => ?_
  intro e m i0 i1 i2 i3 K R hK
  rw [zap]
  (conv => lhs; arg 4; whnf)
  first | (refine zt ?_; simp only [zaZ] at hK; refine hK _ _ ?_; exact zs) | (refine zt ?_; refine zaf (I.1 _ _ ?_ ?_ ?_ ?_ _ _ hK); (iterate 4 exact zs)) | (refine zt ?_; simp only [zaZ] at hK; refine hK _ _)
theorem zf0 {kk : Nat} {a : (Sl zam)} {r : Int} (h : zbw kk a = some r) : Ev cfg 115 [(dSl zaq a), (.fn (.func 123) [] [])] (.int .i64 r) := by
 unfold zbw at h
 have E := evT
 rcases zaw h with ⟨r7_, o6_, h⟩ | ⟨q5, o6_, h⟩
 obtain ⟨_, l5_, E⟩ := E.lp (zcy o6_)
 rotate_left
 obtain ⟨_, l8_, E⟩ := E.lp (zcy o6_)
 all_goals
  cases h
  refine E.s fun n x => ?_
  first | (have := l5_; refine zt ?_; refine zaf (l5_.1 n YJ _ _ ?_ ?_ ?_ ?_ _ _ ?_); (iterate 4 exact zs); simp only [zaZ]; intro e m i0; exact zs) | (have := l8_; refine zt ?_; refine zaf (l8_.1 n YJ _ _ ?_ ?_ ?_ ?_ _ _ ?_); (iterate 4 exact zs); simp only [zaZ]; intro e m; exact zs)
theorem zf6 (a : (Sl zam)) (h : a.l.length < big - 1) : Ev cfg 115 [(dSl zaq a), (.fn (.func 123) [] [])] (.int .i64 (zyM zBw a)) := zf0 (zfj (kk := big) a h YJ)
theorem zfe {kk : Nat} {a : (Sl zam)} {r : Bool} (h : zbl kk a = some r) : Ev cfg 72 [(dSl zaq a), (.fn (.func 123) [] [])] (.bool r) := by
 unfold zbl at h
 have E := evT
 obtain ⟨_, h1_, h⟩ := zaa h
 have E := E.and (zf6 a (zah h1_))
 cases h
 refine E.s fun n x => ?_
 exact zs
theorem zfk (a : (Sl zam)) (h : a.l.length < big - 1) : Ev cfg 72 [(dSl zaq a), (.fn (.func 123) [] [])] (.bool (zwZ zBw a)) := zfe (zeE (kk := big) a h YJ)
theorem zpI {kk : Nat} {a : (Sl zam)} {r : Bool} (h : ze2 kk a = some r) : Ev cfg 91 [(dSl zaq a)] (.bool r) := by
 unfold ze2 at h
 have E := evT
 obtain ⟨_, h1_, h⟩ := zaa h
 have E := E.and (zfk a (zah h1_))
 cases h
 refine E.s fun n x => ?_
 exact zs
theorem zpR (a : (Sl zam)) (h : a.l.length < big - 1) : Ev cfg 91 [(dSl zaq a)] (.bool (zeu a)) := zpI (znN (kk := big) a h YJ)
attribute [go_sem] func94 f94
def zaN (c1 : Sl zae) (K : YK) (R : YL) : Out (Bool) (Int) -> Prop
 | .ret r => ∀ (e : Env) (m : Mem), e 4 = (.bool r) -> K .ret ⟨e, m⟩ = R
 | .done q => ∀ (e : Env) (m : Mem), K (.exit 0) ⟨e, m⟩ = R
noncomputable def zd5 : Code := za4 f94 [1, 0, 1, 0, 0]
theorem zca {c1 : Sl zae} {kk : Nat} : ∀ {k : Nat} {s2 : Int} {out : Out (Bool) (Int)}, zau c1 kk k s2 = some out -> ∃ N, ∀ n, N <= n -> ∀ k, N <= k -> ∀ (e : Env) (m : Mem), e 0 = (dSl zao c1) -> e 1 = (.fn (.func 83) [] []) -> e 5 = (.int .i64 s2) -> ∀ (K : YK) (R : YL), zaN c1 K R out -> zbU (zbt cfg (dfn cfg n) n zd5) K k ⟨e, m⟩ = R := by
 intro k
 induction k with
 | zero => intro s2 out h; cases h
 | succ k ih => ?_
 intro s2 out h
 have ih := fun x0 {out} => @ih x0 out
 unfold zau at h
 have E := evT
 rcases zac h with ⟨h1_, h⟩ | ⟨h1_, h⟩
 obtain ⟨y3, h2_, h⟩ := zaa h
 obtain ⟨_, h3_⟩ := zaA h2_
 have h3_ := zav h3_ zao
 obtain ⟨y4, h4_, h⟩ := zaa h
 obtain ⟨_, h5_⟩ := zaA h4_
 have h5_ := zav h5_ zao
 obtain ⟨_, h6_, h⟩ := zaa h
 have E := E.and (zpf y3 y4 (zah h6_))
 rcases zac h with ⟨h7_, h⟩ | ⟨h7_, h⟩
 all_goals
  first | (cases h; refine E.l fun n k x => ?_) | refine E.c (ih _ h) fun n k x I => ?_
  intro e m i0 i1 i2 K R hK
  rw [zap]
  (conv => lhs; arg 4; whnf)
  first | (refine zt ?_; simp only [zaN] at hK; refine hK _ _ ?_; exact zs) | (refine zt ?_; refine zaf (I.1 _ _ ?_ ?_ ?_ _ _ hK); (iterate 3 exact zs)) | (refine zt ?_; simp only [zaN] at hK; refine hK _ _)
theorem zey {kk : Nat} {a : (Sl zae)} {r : Bool} (h : zbd kk a = some r) : Ev cfg 94 [(dSl zao a), (.fn (.func 83) [] [])] (.bool r) := by
 unfold zbd at h
 have E := evT
 rcases zaw h with ⟨r10_, o9_, h⟩ | ⟨q6, o9_, h⟩
 obtain ⟨_, l8_, E⟩ := E.lp (zca o9_)
 rotate_left
 obtain ⟨_, l11_, E⟩ := E.lp (zca o9_)
 all_goals
  cases h
  refine E.s fun n x => ?_
  first | (have := l8_; refine zt ?_; refine zaf (l8_.1 n YJ _ _ ?_ ?_ ?_ _ _ ?_); (iterate 3 exact zs); simp only [zaN]; intro e m i0; exact zs) | (have := l11_; refine zt ?_; refine zaf (l11_.1 n YJ _ _ ?_ ?_ ?_ _ _ ?_); (iterate 3 exact zs); simp only [zaN]; intro e m; exact zs)
theorem zeF (a : (Sl zae)) (h : 8 * zbb a.l + 5 < big - 1) : Ev cfg 94 [(dSl zao a), (.fn (.func 83) [] [])] (.bool (zr4 a)) := zey (zd3 (kk := big) a h YJ)
attribute [go_sem] func92 f92 func95 f95 func124 f124 func125 f125
theorem zrF {kk : Nat} {a : zae} {u0 : Val} {u1 : Int} {r : Bool × Val × Int} (h : zd4 kk a u0 u1 = some r) : ∃ N, ∀ n, N <= n -> ∀ g0_ g1_, dfn cfg n 125 [(.agg (zao a)), (.ptr (.arg 0) g0_ 0 0), (.ptr (.arg 1) g1_ 0 0)] [.rows g0_ false true 3 [zd0 u0], .rows g1_ false true 1 [[(.int .i64 u1)]]] = some ⟨(.bool r.1), [.rows g0_ false true 3 [zd0 r.2.1], .rows g1_ false true 1 [[(.int .i64 r.2.2)]]], []⟩ := by
 unfold zd4 at h
 have E := evT
 have E := E.and (zje a.value)
 rcases yG (((zaE a.value))) with h1_ | h1_
 rcases yG ((a.value.kind != u0.kind)) with h2_ | h2_
 rcases yG ((u1 == 0)) with h3_ | h3_
 rotate_left
 rotate_left
 rcases yG ((u1 == 0)) with h4_ | h4_
 rotate_left
 rotate_left
 rcases yG ((u1 == 0)) with h5_ | h5_
 all_goals
  cases h
  refine E.s fun n x g0_ g1_ => ?_
  exact zs
def zaY (c1 : Sl zae) (c2 : Int) (g0_ g1_ : Nat) (K : YK) (R : YL) : Out (Int × Val × Int) (Int × Val × Int) -> Prop
 | .ret r => ∀ (e : Env) (m : Mem), e 4 = (.int .i64 r.1) -> m (.arg 0) = some (.rows g0_ false true 3 [zd0 r.2.1]) -> m (.arg 1) = some (.rows g1_ false true 1 [[(.int .i64 r.2.2)]]) -> K .ret ⟨e, m⟩ = R
 | .done q => ∀ (e : Env) (m : Mem), m (.arg 0) = some (.rows g0_ false true 3 [zd0 q.2.1]) -> m (.arg 1) = some (.rows g1_ false true 1 [[(.int .i64 q.2.2)]]) -> K (.exit 0) ⟨e, m⟩ = R
noncomputable def zfl : Code := za4 f124 [1, 0, 1, 0, 0]
theorem zcx {c1 : Sl zae} {c2 : Int} {kk : Nat} : ∀ {k : Nat} {s3 : Int} {s4 : Val} {s5 : Int} {out : Out (Int × Val × Int) (Int × Val × Int)}, zaB c1 c2 kk k s3 s4 s5 = some out -> ∃ N, ∀ n, N <= n -> ∀ k, N <= k -> ∀ g0_ g1_, ∀ (e : Env) (m : Mem), e 0 = (dSl zao c1) -> e 1 = (.fn (.func 125) [] [(.ptr (.arg 0) g0_ 0 0), (.ptr (.arg 1) g1_ 0 0)]) -> e 7 = (.int .i64 c2) -> e 8 = (.int .i64 s3) -> m (.arg 0) = some (.rows g0_ false true 3 [zd0 s4]) -> m (.arg 1) = some (.rows g1_ false true 1 [[(.int .i64 s5)]]) -> ∀ (K : YK) (R : YL), zaY c1 c2 g0_ g1_ K R out -> zbU (zbt cfg (dfn cfg n) n zfl) K k ⟨e, m⟩ = R := by
 intro k
 induction k with
 | zero => intro s3 s4 s5 out h; cases h
 | succ k ih => ?_
 intro s3 s4 s5 out h
 have ih := fun x0 x1 x2 {out} => @ih x0 x1 x2 out
 unfold zaB at h
 have E := evT
 rcases zac h with ⟨h1_, h⟩ | ⟨h1_, h⟩
 obtain ⟨y6, h2_, h⟩ := zaa h
 obtain ⟨_, h3_⟩ := zaA h2_
 have h3_ := zav h3_ zao
 obtain ⟨r7, h4_, h⟩ := zaa h
 have E := E.and (zrF h4_)
 rcases zac h with ⟨h5_, h⟩ | ⟨h5_, h⟩
 all_goals
  first | (cases h; refine E.l fun n k x => ?_) | refine E.c (ih _ _ _ h) fun n k x I => ?_
  intro g0_ g1_ e m i0 i1 i2 i3 i4 i5 K R hK
  rw [zap]
  (conv => lhs; arg 4; whnf)
  first | (refine zt ?_; simp only [zaY] at hK; refine hK _ _ ?_ ?_ ?_; (iterate 3 exact zs)) | (refine zt ?_; refine zaf (I.1 g0_ g1_ _ _ ?_ ?_ ?_ ?_ ?_ ?_ _ _ hK); (iterate 6 exact zs)) | (refine zt ?_; simp only [zaY] at hK; refine hK _ _ ?_ ?_; (iterate 2 exact zs))
theorem zfZ {kk : Nat} {a : (Sl zae)} {u0 : Val} {u1 : Int} {r : Int × Val × Int} (h : zbv kk a u0 u1 = some r) : ∃ N, ∀ n, N <= n -> ∀ g0_ g1_, dfn cfg n 124 [(dSl zao a), (.fn (.func 125) [] [(.ptr (.arg 0) g0_ 0 0), (.ptr (.arg 1) g1_ 0 0)])] [.rows g0_ false true 3 [zd0 u0], .rows g1_ false true 1 [[(.int .i64 u1)]]] = some ⟨(.int .i64 r.1), [.rows g0_ false true 3 [zd0 r.2.1], .rows g1_ false true 1 [[(.int .i64 r.2.2)]]], []⟩ := by
 unfold zbv at h
 have E := evT
 rcases zaw h with ⟨r8_, o7_, h⟩ | ⟨q8, o7_, h⟩
 obtain ⟨_, l6_, E⟩ := E.lp (zcx o7_)
 rotate_left
 obtain ⟨_, l9_, E⟩ := E.lp (zcx o7_)
 all_goals
  cases h
  refine E.s fun n x g0_ g1_ => ?_
  first | (have := l6_; refine zt ?_; refine zaf (l6_.1 n YJ g0_ g1_ _ _ ?_ ?_ ?_ ?_ ?_ ?_ _ _ ?_); (iterate 6 exact zs); simp only [zaY]; intro e m i0 i1 i2; exact zs) | (have := l9_; refine zt ?_; refine zaf (l9_.1 n YJ g0_ g1_ _ _ ?_ ?_ ?_ ?_ ?_ ?_ _ _ ?_); (iterate 6 exact zs); simp only [zaY]; intro e m i0 i1; exact zs)
theorem zbM {kk : Nat} {a : (Sl zae)} {u0 : Val} {u1 : Int} {r : Bool × Val × Int} (h : za0 kk a u0 u1 = some r) : ∃ N, ∀ n, N <= n -> ∀ g0_ g1_, dfn cfg n 92 [(dSl zao a), (.fn (.func 125) [] [(.ptr (.arg 0) g0_ 0 0), (.ptr (.arg 1) g1_ 0 0)])] [.rows g0_ false true 3 [zd0 u0], .rows g1_ false true 1 [[(.int .i64 u1)]]] = some ⟨(.bool r.1), [.rows g0_ false true 3 [zd0 r.2.1], .rows g1_ false true 1 [[(.int .i64 r.2.2)]]], []⟩ := by
 unfold za0 at h
 have E := evT
 obtain ⟨r1, h1_, h⟩ := zaa h
 have E := E.and (zfZ h1_)
 cases h
 refine E.s fun n x g0_ g1_ => ?_
 exact zs
theorem ztH {kk : Nat} {a : Int} {b : (Sl zae)} {c : Int} {d : Val} {r : Bool} (h : zg8 kk a b c d = some r) : Ev cfg 95 [(.int .i64 a), (dSl zao b), (.int .i64 c), (.agg (zd0 d))] (.bool r) := by
 unfold zg8 at h
 have E := evT
 have E := E.and (zje d)
 rcases zac h with ⟨h1_, h⟩ | ⟨h1_, h⟩
 rcases zbL h1_ with b2_ | ⟨b2_, b3_⟩
 rcases zbL b2_ with b4_ | ⟨b4_, b5_⟩
 rcases zbL b4_ with b6_ | ⟨b6_, b7_⟩
 rcases zbL b6_ with b8_ | ⟨b8_, b9_⟩
 rotate_left
 rotate_left
 obtain ⟨b10_, b11_⟩ := zaK b6_
 rotate_left
 obtain ⟨b12_, b13_⟩ := zaK b4_
 obtain ⟨b14_, b15_⟩ := zaK b12_
 rotate_left
 obtain ⟨b16_, b17_⟩ := zaK b2_
 obtain ⟨b18_, b19_⟩ := zaK b16_
 obtain ⟨b20_, b21_⟩ := zaK b18_
 have b22_ := zan b3_
 rotate_left
 obtain ⟨b23_, b24_⟩ := zaK h1_
 obtain ⟨b25_, b26_⟩ := zaK b23_
 obtain ⟨b27_, b28_⟩ := zaK b25_
 obtain ⟨b29_, b30_⟩ := zaK b27_
 have b31_ := zal b24_
 rcases zac h with ⟨h32_, h⟩ | ⟨h32_, h⟩
 obtain ⟨b33_, b34_⟩ := zbG h32_
 rcases zbL b33_ with b35_ | ⟨b35_, b36_⟩
 rotate_left
 rotate_left
 rcases zbj h32_ with b37_ | ⟨b37_, b38_⟩
 obtain ⟨b39_, b40_⟩ := zaK b37_
 obtain ⟨r1, h43_, h⟩ := zaa h
 have E := E.and (zbM h43_)
 rotate_left
 rcases zbL b37_ with b41_ | ⟨b41_, b42_⟩
 obtain ⟨r1, h44_, h⟩ := zaa h
 have E := E.and (zbM h44_)
 rotate_left
 obtain ⟨r1, h45_, h⟩ := zaa h
 have E := E.and (zbM h45_)
 all_goals
  cases h
  refine E.s fun n x => ?_
  exact zs
theorem ztZ (a : Int) (b : Sl zae) (c : Int) (d : Val) (h : b.l.length < big - 1) : Ev cfg 95 [(.int .i64 a), (dSl zao b), (.int .i64 c), (.agg (zd0 d))] (.bool (zk1 a b c d)) := ztH (zq7 (kk := big) a b c d h YJ)
attribute [go_sem] func21 f21 func85 f85 func86 f86 func92 f92 func93 f93 func122 f122 func124 f124
def zeA (c16 c17 : Sl zam) (c18 c19 : Int) (c20 : Sl zaj) (c21 : Int) (c23 : zam) (K : YK) (R : YL) : Out (Bool) (Int) -> Prop
 | .ret r => ∀ (e : Env) (m : Mem), e 2 = (.bool r) -> K .ret ⟨e, m⟩ = R
 | .done q => ∀ (e : Env) (m : Mem), e 0 = (dSl zaq c16) -> e 10 = (dSl zaq c17) -> e 11 = (.int .i64 c18) -> e 12 = (.int .i64 c19) -> K (.exit 2) ⟨e, m⟩ = R
noncomputable def zs2 : Code := za4 f21 [1, 1, 0, 1, 0, 0, 1, 1, 0, 0, 1, 1, 1, 0, 0]
abbrev zGY (sz : Nat) : Prop := (∀ (a : (Sl zam)), 20 * zak a.l + 1 < sz -> Ev cfg 21 [(dSl zaq a)] (.bool (zb2 a))) /\ (∀ (a : zas), 20 * zby a < sz -> Ev cfg 46 [(.agg (zbQ a))] (.bool (zr9 a))) /\ (∀ (a : (Sl zam)), 20 * zak a.l + 2 < sz -> Ev cfg 86 [(dSl zaq a)] (.bool (zos a))) /\ (∀ (a : (Sl (Sl zam))), 20 * zcw a.l < sz -> Ev cfg 122 [(dSl (cSl zaq) a), (.fn (.func 86) [] [])] (.int .i64 (zyM zos a))) /\ (∀ (a : (Sl (Sl zam))), 20 * zcw a.l + 1 < sz -> Ev cfg 85 [(dSl (cSl zaq) a), (.fn (.func 86) [] [])] (.bool (zwZ zos a))) /\ (∀ (a : zae), 20 * zei a < sz -> Ev cfg 93 [(.agg (zao a))] (.bool (zkr a))) /\ (∀ (a : (Sl zae)), 20 * zbb a.l < sz -> Ev cfg 124 [(dSl zao a), (.fn (.func 93) [] [])] (.int .i64 (zyM zkr a))) /\ (∀ (a : (Sl zae)), 20 * zbb a.l + 1 < sz -> Ev cfg 92 [(dSl zao a), (.fn (.func 93) [] [])] (.bool (zwZ zkr a)))
theorem zlT {c16 c17 : Sl zam} {c18 c19 : Int} {c20 : Sl zaj} {c21 : Int} {c23 : zam} {sz : Nat} (hg : zGY sz) {kk : Nat} : ∀ {k : Nat} {s22 : Int} {out : Out (Bool) (Int)}, zcd c16 c17 c18 c19 c20 c21 c23 sz kk k s22 = some out -> ∃ N, ∀ n, N <= n -> ∀ k, N <= k -> ∀ (e : Env) (m : Mem), e 0 = (dSl zaq c16) -> zb9 (e 4) m 4 2 (zaq c23) -> e 10 = (dSl zaq c17) -> e 11 = (.int .i64 c18) -> e 12 = (.int .i64 c19) -> e 40 = (dSl zaz c20) -> e 41 = (.int .i64 c21) -> e 42 = (.int .i64 s22) -> ∀ (K : YK) (R : YL), zeA c16 c17 c18 c19 c20 c21 c23 K R out -> zbU (zbt cfg (dfn cfg n) n zs2) K k ⟨e, m⟩ = R := by
 have ⟨_, hVA, _, _, _, _, _, _⟩ := hg
 intro k
 induction k with
 | zero => intro s22 out h; cases h
 | succ k ih => ?_
 intro s22 out h
 have ih := fun x0 {out} => @ih x0 out
 unfold zcd at h
 have E := evT
 rcases zac h with ⟨h1_, h⟩ | ⟨h1_, h⟩
 obtain ⟨y24, h2_, h⟩ := zaa h
 obtain ⟨_, h3_⟩ := zaA h2_
 have h3_ := zav h3_ zaz
 have E := E.and (zkV y24.atom)
 rcases zac h with ⟨h4_, h⟩ | ⟨h4_, h⟩
 obtain ⟨y25, h5_, h⟩ := zaa h
 obtain ⟨_, h6_⟩ := zaA h5_
 have h6_ := zav h6_ zaz
 obtain ⟨_, h7_, h⟩ := zaa h
 have E := E.and (zpg y25.atom y24.atom (zah h7_))
 rcases zac h with ⟨h8_, h⟩ | ⟨h8_, h⟩
 have b9_ := zan h8_
 obtain ⟨b10_, b11_⟩ := zaK b9_
 obtain ⟨b12_, b13_⟩ := zaK b10_
 rcases zbj b13_ with b14_ | ⟨b14_, b15_⟩
 obtain ⟨_, h16_, h⟩ := zaa h
 have E := E.and (hVA y24.atom (zah h16_))
 rcases zac h with ⟨h17_, h⟩ | ⟨h17_, h⟩
 have b18_ := zan h17_
 rotate_left
 have b19_ := zal h17_
 rotate_left
 obtain ⟨_, h20_, h⟩ := zaa h
 have E := E.and (hVA y24.atom (zah h20_))
 rcases zac h with ⟨h21_, h⟩ | ⟨h21_, h⟩
 have b22_ := zan h21_
 rotate_left
 have b23_ := zal h21_
 rotate_left
 have b24_ := zal h8_
 rcases zbL b24_ with b25_ | ⟨b25_, b26_⟩
 rcases zbL b25_ with b27_ | ⟨b27_, b28_⟩
 rcases yG (((zxo y24.atom))) with h35_ | h35_
 rotate_left
 rotate_left
 obtain ⟨b29_, b30_⟩ := zbG b28_
 rotate_left
 obtain ⟨b31_, b32_⟩ := zaK b25_
 rcases zbj b32_ with b33_ | ⟨b33_, b34_⟩
 rotate_left
 rotate_left
 rcases zac h with ⟨h36_, h⟩ | ⟨h36_, h⟩
 have b37_ := zan h36_
 obtain ⟨b38_, b39_⟩ := zaK b37_
 rcases zbj b39_ with b40_ | ⟨b40_, b41_⟩
 obtain ⟨_, h42_, h⟩ := zaa h
 have E := E.and (hVA y24.atom (zah h42_))
 rcases zac h with ⟨h43_, h⟩ | ⟨h43_, h⟩
 have b44_ := zan h43_
 rotate_left
 have b45_ := zal h43_
 rotate_left
 obtain ⟨_, h46_, h⟩ := zaa h
 have E := E.and (hVA y24.atom (zah h46_))
 rcases zac h with ⟨h47_, h⟩ | ⟨h47_, h⟩
 have b48_ := zan h47_
 rotate_left
 have b49_ := zal h47_
 rotate_left
 have b50_ := zal h36_
 rcases zbL b50_ with b51_ | ⟨b51_, b52_⟩
 rcases yG (((zxo y24.atom))) with h55_ | h55_
 rotate_left
 rotate_left
 obtain ⟨b53_, b54_⟩ := zbG b52_
 all_goals
  first | (cases h; refine E.l fun n k x => ?_) | refine E.c (ih _ h) fun n k x I => ?_
  intro e m i0 i1 i2 i3 i4 i5 i6 i7 K R hK
  obtain ⟨_, _, _⟩ := i1
  rw [zap]
  (conv => lhs; arg 4; whnf)
  first | (refine zt ?_; simp only [zeA] at hK; refine hK _ _ ?_; exact zs) | (refine zt ?_; refine zaf (I.1 _ _ ?_ ?_ ?_ ?_ ?_ ?_ ?_ ?_ _ _ hK); (iterate 8 exact zs)) | (refine zt ?_; simp only [zeA] at hK; refine hK _ _ ?_ ?_ ?_ ?_; (iterate 4 exact zs))
def ziE (c7 : Sl zam) (c8 : Int) (c9 : Sl zam) (c10 c11 : Int) (c12 : zam) (K : YK) (R : YL) (q : Bool) : Prop := ∀ (e : Env) (m : Mem), e 0 = (dSl zaq c7) -> zb9 (e 4) m 4 2 (zaq c12) -> e 10 = (dSl zaq c9) -> e 11 = (.int .i64 c10) -> e 12 = (.int .i64 c11) -> e 38 = (.bool (q)) -> K .normal ⟨e, m⟩ = R
noncomputable def zl7 : Code := za4 f21 [1, 1, 0, 1, 0, 0, 1, 1, 0, 0, 1, 0, 0]
theorem zsN {c7 : Sl zam} {c8 : Int} {c9 : Sl zam} {c10 c11 : Int} {c12 : zam} {sz : Nat} (hg : zGY sz) {kk : Nat} {out : Bool} (h : zg5 c7 c8 c9 c10 c11 c12 sz kk = some out) : ∃ N, ∀ n, N <= n -> ∀ (e : Env) (m : Mem), e 0 = (dSl zaq c7) -> e 3 = (.int .i64 c8) -> zb9 (e 4) m 4 2 (zaq c12) -> e 10 = (dSl zaq c9) -> e 11 = (.int .i64 c10) -> e 12 = (.int .i64 c11) -> ∀ (K : YK) (R : YL), ziE c7 c8 c9 c10 c11 c12 K R out -> zbt cfg (dfn cfg n) n zl7 K ⟨e, m⟩ = R := by
 unfold zg5 at h
 have E := evT
 rcases zac h with ⟨h56_, h⟩ | ⟨h56_, h⟩
 obtain ⟨y13, h57_, h⟩ := zaa h
 obtain ⟨_, h58_⟩ := zaA h57_
 have h58_ := zav h58_ zaq
 obtain ⟨_, h59_, h⟩ := zaa h
 have E := E.and (zpe y13 c12 (zah h59_))
 rcases yG ((decide (c12.coeff < 1))) with h60_ | h60_
 rotate_left
 rcases yG ((decide (1152921504606846976 < c12.coeff))) with h61_ | h61_
 rotate_left
 rotate_left
 rcases zac h with ⟨h62_, h⟩ | ⟨h62_, h⟩
 have b63_ := zan h62_
 obtain ⟨b64_, b65_⟩ := zaK b63_
 rotate_left
 have b66_ := zal h62_
 rcases zbL b66_ with b67_ | ⟨b67_, b68_⟩
 all_goals
  cases h
  refine E.j fun n x => ?_
  intro e m i0 i1 i2 i3 i4 i5 K R hK
  obtain ⟨_, _, _⟩ := i2
  (conv => lhs; arg 4; whnf)
  refine zt ?_
  simp only [ziE] at hK
  refine hK _ _ ?_ ?_ ?_ ?_ ?_ ?_
  (iterate 6 exact zs)
def zdv (c2 c3 : Sl zam) (c4 : Int) (K : YK) (R : YL) : Out (Bool) (Int) -> Prop
 | .ret r => ∀ (e : Env) (m : Mem), e 2 = (.bool r) -> K .ret ⟨e, m⟩ = R
 | .done q => ∀ (e : Env) (m : Mem), K (.exit 0) ⟨e, m⟩ = R
noncomputable def zs3 : Code := za4 f21 [1, 1, 0, 1, 0, 0]
theorem zlU {c2 c3 : Sl zam} {c4 : Int} {sz : Nat} (hg : zGY sz) {kk : Nat} : ∀ {k : Nat} {s5 : Int} {out : Out (Bool) (Int)}, zcz c2 c3 c4 sz kk k s5 = some out -> ∃ N, ∀ n, N <= n -> ∀ k, N <= k -> ∀ (e : Env) (m : Mem), e 0 = (dSl zaq c2) -> e 10 = (dSl zaq c3) -> e 11 = (.int .i64 c4) -> e 12 = (.int .i64 s5) -> ∀ (K : YK) (R : YL), zdv c2 c3 c4 K R out -> zbU (zbt cfg (dfn cfg n) n zs3) K k ⟨e, m⟩ = R := by
 intro k
 induction k with
 | zero => intro s5 out h; cases h
 | succ k ih => ?_
 intro s5 out h
 have ih := fun x0 {out} => @ih x0 out
 unfold zcz at h
 have E := evT
 rcases zac h with ⟨h69_, h⟩ | ⟨h69_, h⟩
 obtain ⟨y6, h70_, h⟩ := zaa h
 obtain ⟨_, h71_⟩ := zaA h70_
 have h71_ := zav h71_ zaq
 obtain ⟨q15, o73_, h⟩ := zaa h
 obtain ⟨_, l72_, E⟩ := E.lj (zsN hg o73_)
 rcases zac h with ⟨h75_, h⟩ | ⟨h75_, h⟩
 rotate_left
 rcases zaw h with ⟨r78_, o77_, h⟩ | ⟨q29, o77_, h⟩
 obtain ⟨_, l76_, E⟩ := E.lp (zlT hg o77_)
 rotate_left
 obtain ⟨_, l79_, E⟩ := E.lp (zlT hg o77_)
 all_goals
  first | (cases h; refine E.l fun n k x => ?_) | refine E.c (ih _ h) fun n k x I => ?_
  intro e m i0 i1 i2 i3 K R hK
  have j0 := zeU cfg (dfn cfg n) n zl7
  (conv at j0 => intro k s; lhs; arg 4; whnf)
  rw [zap]
  (conv => lhs; arg 4; whnf)
  first | (have := l72_; simp -dsimp -implicitDefEqProofs only [go_sem, ↓j0, *, simprocAttr]; refine zgv (l72_.1 n YJ _ _ ?_ ?_ ?_ ?_ ?_ ?_ _ _ ?_); (iterate 6 exact zs); simp only [ziE]; intro e m i0 i1 i2 i3 i4 i5; obtain ⟨_, _, _⟩ := i1; (first | (have := l76_; (try simp -dsimp -implicitDefEqProofs only [go_sem, ↓j0, *, simprocAttr]); refine zaf (l76_.1 n YJ _ _ ?_ ?_ ?_ ?_ ?_ ?_ ?_ ?_ _ _ ?_); (iterate 8 exact zs); simp only [zeA]; intro e m i0; (try simp -dsimp -implicitDefEqProofs only [go_sem, ↓j0, *, simprocAttr]); simp only [zdv] at hK; refine hK _ _ ?_; exact zs) | (have := l79_; (try simp -dsimp -implicitDefEqProofs only [go_sem, ↓j0, *, simprocAttr]); refine zaf (l79_.1 n YJ _ _ ?_ ?_ ?_ ?_ ?_ ?_ ?_ ?_ _ _ ?_); (iterate 8 exact zs); simp only [zeA]; intro e m i0 i1 i2 i3; (try simp -dsimp -implicitDefEqProofs only [go_sem, ↓j0, *, simprocAttr]); refine zaf (I.1 _ _ ?_ ?_ ?_ ?_ _ _ hK); (iterate 4 exact zs)) | ((try simp -dsimp -implicitDefEqProofs only [go_sem, ↓j0, *, simprocAttr]); simp only [zdv] at hK; refine hK _ _ ?_; exact zs))) | ((try simp -dsimp -implicitDefEqProofs only [go_sem, ↓j0, *, simprocAttr]); simp only [zdv] at hK; refine hK _ _)
theorem zwj {kk : Nat} {a : (Sl zam)} {sz : Nat} (hg : zGY sz) {r : Bool} (h : zif kk sz a = some r) : Ev cfg 21 [(dSl zaq a)] (.bool r) := by
 unfold zif at h
 have E := evT
 obtain ⟨_, h80_, h⟩ := zaa h
 have E := E.and (zu8 a (zah h80_))
 rcases zac h with ⟨h81_, h⟩ | ⟨h81_, h⟩
 have b82_ := zan h81_
 rotate_left
 have b83_ := zal h81_
 rcases zaw h with ⟨r86_, o85_, h⟩ | ⟨q30, o85_, h⟩
 obtain ⟨_, l84_, E⟩ := E.lp (zlU hg o85_)
 rotate_left
 obtain ⟨_, l87_, E⟩ := E.lp (zlU hg o85_)
 all_goals
  cases h
  refine E.s fun n x => ?_
  first | (have := l84_; refine zt ?_; refine zaf (l84_.1 n YJ _ _ ?_ ?_ ?_ ?_ _ _ ?_); (iterate 4 exact zs); simp only [zdv]; intro e m i0; exact zs) | (have := l87_; refine zt ?_; refine zaf (l87_.1 n YJ _ _ ?_ ?_ ?_ ?_ _ _ ?_); (iterate 4 exact zs); simp only [zdv]; intro e m; exact zs) | (exact zs)
def zgK (c3 : Bool) (c4 : zas) (K : YK) (R : YL) (q : Bool) : Prop := ∀ (e : Env) (m : Mem), zb9 (e 1) m 1 10 (zbQ c4) -> e 46 = (.bool (q)) -> K .normal ⟨e, m⟩ = R
noncomputable def zjE : Code := za4 f46 [1, 1, 0, 0]
theorem zo0 {c3 : Bool} {c4 : zas} {sz : Nat} (hg : zGY sz) {kk : Nat} {out : Bool} (h : zeW c3 c4 sz kk = some out) : ∃ N, ∀ n, N <= n -> ∀ (e : Env) (m : Mem), zb9 (e 1) m 1 10 (zbQ c4) -> e 3 = (.bool (c3)) -> ∀ (K : YK) (R : YL), zgK c3 c4 K R out -> zbt cfg (dfn cfg n) n zjE K ⟨e, m⟩ = R := by
 have ⟨_, _, _, _, hC1, _, _, _⟩ := hg
 unfold zeW at h
 have E := evT
 rcases zac h with ⟨h1_, h⟩ | ⟨h1_, h⟩
 have b2_ := zan h1_
 obtain ⟨b3_, b4_⟩ := zaK b2_
 rcases zbj b4_ with b5_ | ⟨b5_, b6_⟩
 obtain ⟨_, h10_, h⟩ := zaa h
 have E := E.and (hC1 c4.args (zah h10_))
 rotate_left
 have b7_ := zal b6_
 obtain ⟨b8_, b9_⟩ := zbG b7_
 obtain ⟨_, h11_, h⟩ := zaa h
 have E := E.and (hC1 c4.args (zah h11_))
 rotate_left
 have b12_ := zal h1_
 rcases zbL b12_ with b13_ | ⟨b13_, b14_⟩
 rcases yG ((c4.kind != 0)) with h20_ | h20_
 rotate_left
 rotate_left
 obtain ⟨b15_, b16_⟩ := zbG b14_
 have b17_ := zan b16_
 rcases zbj b17_ with b18_ | ⟨b18_, b19_⟩
 all_goals
  cases h
  refine E.j fun n x => ?_
  intro e m i0 i1 K R hK
  obtain ⟨_, _, _⟩ := i0
  (conv => lhs; arg 4; whnf)
  refine zt ?_
  simp only [zgK] at hK
  refine hK _ _ ?_ ?_
  (iterate 2 exact zs)
def zgL (c1 : zas) (K : YK) (R : YL) (q : Bool) : Prop := ∀ (e : Env) (m : Mem), zb9 (e 1) m 1 10 (zbQ c1) -> e 3 = (.bool (q)) -> K .normal ⟨e, m⟩ = R
noncomputable def zjF : Code := za4 f46 [1, 0]
theorem zo1 {c1 : zas} {sz : Nat} (hg : zGY sz) {kk : Nat} {out : Bool} (h : zeX c1 sz kk = some out) : ∃ N, ∀ n, N <= n -> ∀ (e : Env) (m : Mem), zb9 (e 1) m 1 10 (zbQ c1) -> ∀ (K : YK) (R : YL), zgL c1 K R out -> zbt cfg (dfn cfg n) n zjF K ⟨e, m⟩ = R := by
 unfold zeX at h
 have E := evT
 rcases yG ((c1.kind != 4)) with h21_ | h21_
 rcases yG ((c1.func != 0)) with h22_ | h22_
 rotate_left
 rcases yG (((c1.items.l.length : Int) != 0)) with h23_ | h23_
 rotate_left
 rcases yG ((c1.op != 0)) with h24_ | h24_
 rotate_left
 rotate_left
 rcases yG ((c1.func != 0)) with h25_ | h25_
 rotate_left
 rcases yG (((c1.items.l.length : Int) != 0)) with h26_ | h26_
 rotate_left
 rcases yG ((c1.op != 0)) with h27_ | h27_
 all_goals
  cases h
  refine E.j fun n x => ?_
  intro e m i0 K R hK
  obtain ⟨_, _, _⟩ := i0
  (conv => lhs; arg 4; whnf)
  refine zt ?_
  simp only [zgL] at hK
  refine hK _ _ ?_ ?_
  (iterate 2 exact zs)
theorem zrC {kk : Nat} {a : zas} {sz : Nat} (hg : zGY sz) {r : Bool} (h : zga kk sz a = some r) : Ev cfg 46 [(.agg (zbQ a))] (.bool r) := by
 have ⟨_, _, _, _, _, _, _, hC2⟩ := hg
 unfold zga at h
 have E := evT
 obtain ⟨q2, o29_, h⟩ := zaa h
 obtain ⟨_, l28_, E⟩ := E.lj (zo1 hg o29_)
 obtain ⟨q6, o32_, h⟩ := zaa h
 obtain ⟨_, l31_, E⟩ := E.lj (zo0 hg o32_)
 rcases zac h with ⟨h34_, h⟩ | ⟨h34_, h⟩
 rotate_left
 rcases zac h with ⟨h35_, h⟩ | ⟨h35_, h⟩
 have E := E.and (zut a.row)
 rcases yG (((zdY a.row))) with h36_ | h36_
 rotate_left
 rotate_left
 rcases zac h with ⟨h37_, h⟩ | ⟨h37_, h⟩
 rcases zac h with ⟨h38_, h⟩ | ⟨h38_, h⟩
 obtain ⟨y7, h39_, h⟩ := zaa h
 have h39_ := zav h39_ (cSl zaq)
 obtain ⟨y8, h40_, h⟩ := zaa h
 have h40_ := zav h40_ (cSl zaq)
 obtain ⟨_, h41_, h⟩ := zaa h
 have E := E.and (zwO y7 y8 (zah h41_))
 rotate_left
 rotate_left
 rcases zac h with ⟨h42_, h⟩ | ⟨h42_, h⟩
 rcases zac h with ⟨h43_, h⟩ | ⟨h43_, h⟩
 obtain ⟨y10, h44_, h⟩ := zaa h
 have h44_ := zav h44_ (cSl zaq)
 have E := E.and (zrd y10)
 have E := E.and (zu9 y10)
 rcases yG (((zit y10))) with h45_ | h45_
 rotate_left
 rotate_left
 rotate_left
 rcases zac h with ⟨h46_, h⟩ | ⟨h46_, h⟩
 rcases zac h with ⟨h47_, h⟩ | ⟨h47_, h⟩
 obtain ⟨y11, h48_, h⟩ := zaa h
 have h48_ := zav h48_ (cSl zaq)
 obtain ⟨_, h49_, h⟩ := zaa h
 have E := E.and (zpR y11 (zah h49_))
 rotate_left
 rotate_left
 rcases zac h with ⟨h50_, h⟩ | ⟨h50_, h⟩
 obtain ⟨_, h51_, h⟩ := zaa h
 have E := E.and (hC2 a.items (zah h51_))
 rcases zac h with ⟨h52_, h⟩ | ⟨h52_, h⟩
 obtain ⟨b53_, b54_⟩ := zbG h52_
 obtain ⟨b55_, b56_⟩ := zbG b53_
 have b57_ := zan b54_
 obtain ⟨_, h58_, h⟩ := zaa h
 have E := E.and (zeF a.items (zah h58_))
 rcases zac h with ⟨h59_, h⟩ | ⟨h59_, h⟩
 obtain ⟨_, h60_, h⟩ := zaa h
 have E := E.and (ztZ a.func a.items a.op a.bound (zah h60_))
 rotate_left
 rotate_left
 rcases zbj h52_ with b61_ | ⟨b61_, b62_⟩
 rcases zbj b61_ with b63_ | ⟨b63_, b64_⟩
 rotate_left
 rotate_left
 obtain ⟨b65_, b66_⟩ := zbG b61_
 have b67_ := zal b62_
 all_goals
  cases h
  refine E.s fun n x => ?_
  have j0 := zeU cfg (dfn cfg n) n zjF
  (conv at j0 => intro k s; lhs; arg 4; whnf)
  have j1 := zeU cfg (dfn cfg n) n zjE
  (conv at j1 => intro k s; lhs; arg 4; whnf)
  simp -dsimp -implicitDefEqProofs only [go_sem, ↓j0, ↓j1, func46, f46, *, simprocAttr]
  refine zgv (l28_.1 n YJ _ _ ?_ _ _ ?_)
  refine zt ?_
  simp only [zgL]
  intro e m i0 i1
  obtain ⟨_, _, _⟩ := i0
  (try simp -dsimp -implicitDefEqProofs only [go_sem, ↓j0, ↓j1, func46, f46, *, simprocAttr])
  refine zgv (l31_.1 n YJ _ _ ?_ ?_ _ _ ?_)
  (iterate 2 exact zs)
  simp only [zgK]
  intro e m i0 i1
  obtain ⟨_, _, _⟩ := i0
  simp -dsimp -implicitDefEqProofs only [go_sem, ↓j0, ↓j1, func46, f46, *, simprocAttr]
theorem zpD {kk : Nat} {a : (Sl zam)} {sz : Nat} (hg : zGY sz) {r : Bool} (h : zeZ kk sz a = some r) : Ev cfg 86 [(dSl zaq a)] (.bool r) := by
 have ⟨hV, _, _, _, _, _, _, _⟩ := hg
 unfold zeZ at h
 have E := evT
 obtain ⟨_, h1_, h⟩ := zaa h
 have E := E.and (hV a (zah h1_))
 rcases yG (((zb2 a))) with h2_ | h2_
 all_goals
  cases h
  refine E.s fun n x => ?_
  exact zs
def zaS (c1 : Sl (Sl zam)) (c2 : Int) (K : YK) (R : YL) : Out (Int) (Int) -> Prop
 | .ret r => ∀ (e : Env) (m : Mem), e 4 = (.int .i64 r) -> K .ret ⟨e, m⟩ = R
 | .done q => ∀ (e : Env) (m : Mem), K (.exit 0) ⟨e, m⟩ = R
noncomputable def zes : Code := za4 f122 [1, 0, 1, 0, 0]
theorem zci {c1 : Sl (Sl zam)} {c2 : Int} {sz : Nat} (hg : zGY sz) {kk : Nat} : ∀ {k : Nat} {s3 : Int} {out : Out (Int) (Int)}, zaG c1 c2 sz kk k s3 = some out -> ∃ N, ∀ n, N <= n -> ∀ k, N <= k -> ∀ (e : Env) (m : Mem), e 0 = (dSl (cSl zaq) c1) -> e 1 = (.fn (.func 86) [] []) -> e 7 = (.int .i64 c2) -> e 8 = (.int .i64 s3) -> ∀ (K : YK) (R : YL), zaS c1 c2 K R out -> zbU (zbt cfg (dfn cfg n) n zes) K k ⟨e, m⟩ = R := by
 have ⟨_, _, hB1, _, _, _, _, _⟩ := hg
 intro k
 induction k with
 | zero => intro s3 out h; cases h
 | succ k ih => ?_
 intro s3 out h
 have ih := fun x0 {out} => @ih x0 out
 unfold zaG at h
 have E := evT
 rcases zac h with ⟨h1_, h⟩ | ⟨h1_, h⟩
 obtain ⟨y4, h2_, h⟩ := zaa h
 obtain ⟨_, h3_⟩ := zaA h2_
 have h3_ := zav h3_ (cSl zaq)
 obtain ⟨_, h4_, h⟩ := zaa h
 have E := E.and (hB1 y4 (zah h4_))
 rcases zac h with ⟨h5_, h⟩ | ⟨h5_, h⟩
 all_goals
  first | (cases h; refine E.l fun n k x => ?_) | refine E.c (ih _ h) fun n k x I => ?_
  intro e m i0 i1 i2 i3 K R hK
  rw [zap]
  (conv => lhs; arg 4; whnf)
  first | (refine zt ?_; simp only [zaS] at hK; refine hK _ _ ?_; exact zs) | (refine zt ?_; refine zaf (I.1 _ _ ?_ ?_ ?_ ?_ _ _ hK); (iterate 4 exact zs)) | (refine zt ?_; simp only [zaS] at hK; refine hK _ _)
theorem ze6 {kk : Nat} {a : (Sl (Sl zam))} {sz : Nat} (hg : zGY sz) {r : Int} (h : zbi kk sz a = some r) : Ev cfg 122 [(dSl (cSl zaq) a), (.fn (.func 86) [] [])] (.int .i64 r) := by
 unfold zbi at h
 have E := evT
 rcases zaw h with ⟨r8_, o7_, h⟩ | ⟨q6, o7_, h⟩
 obtain ⟨_, l6_, E⟩ := E.lp (zci hg o7_)
 rotate_left
 obtain ⟨_, l9_, E⟩ := E.lp (zci hg o7_)
 all_goals
  cases h
  refine E.s fun n x => ?_
  first | (have := l6_; refine zt ?_; refine zaf (l6_.1 n YJ _ _ ?_ ?_ ?_ ?_ _ _ ?_); (iterate 4 exact zs); simp only [zaS]; intro e m i0; exact zs) | (have := l9_; refine zt ?_; refine zaf (l9_.1 n YJ _ _ ?_ ?_ ?_ ?_ _ _ ?_); (iterate 4 exact zs); simp only [zaS]; intro e m; exact zs)
theorem zek {kk : Nat} {a : (Sl (Sl zam))} {sz : Nat} (hg : zGY sz) {r : Bool} (h : zba kk sz a = some r) : Ev cfg 85 [(dSl (cSl zaq) a), (.fn (.func 86) [] [])] (.bool r) := by
 have ⟨_, _, _, hI1, _, _, _, _⟩ := hg
 unfold zba at h
 have E := evT
 obtain ⟨_, h1_, h⟩ := zaa h
 have E := E.and (hI1 a (zah h1_))
 cases h
 refine E.s fun n x => ?_
 exact zs
theorem zpC {kk : Nat} {a : zae} {sz : Nat} (hg : zGY sz) {r : Bool} (h : zeY kk sz a = some r) : Ev cfg 93 [(.agg (zao a))] (.bool r) := by
 have ⟨hV, _, _, _, _, _, _, _⟩ := hg
 unfold zeY at h
 have E := evT
 obtain ⟨_, h1_, h⟩ := zaa h
 have E := E.and (hV a.ann (zah h1_))
 rcases yG (((zb2 a.ann))) with h2_ | h2_
 all_goals
  cases h
  refine E.s fun n x => ?_
  exact zs
def zaV (c1 : Sl zae) (c2 : Int) (K : YK) (R : YL) : Out (Int) (Int) -> Prop
 | .ret r => ∀ (e : Env) (m : Mem), e 4 = (.int .i64 r) -> K .ret ⟨e, m⟩ = R
 | .done q => ∀ (e : Env) (m : Mem), K (.exit 0) ⟨e, m⟩ = R
noncomputable def zeR : Code := za4 f124 [1, 0, 1, 0, 0]
theorem zcp {c1 : Sl zae} {c2 : Int} {sz : Nat} (hg : zGY sz) {kk : Nat} : ∀ {k : Nat} {s3 : Int} {out : Out (Int) (Int)}, zaJ c1 c2 sz kk k s3 = some out -> ∃ N, ∀ n, N <= n -> ∀ k, N <= k -> ∀ (e : Env) (m : Mem), e 0 = (dSl zao c1) -> e 1 = (.fn (.func 93) [] []) -> e 7 = (.int .i64 c2) -> e 8 = (.int .i64 s3) -> ∀ (K : YK) (R : YL), zaV c1 c2 K R out -> zbU (zbt cfg (dfn cfg n) n zeR) K k ⟨e, m⟩ = R := by
 have ⟨_, _, _, _, _, hB2, _, _⟩ := hg
 intro k
 induction k with
 | zero => intro s3 out h; cases h
 | succ k ih => ?_
 intro s3 out h
 have ih := fun x0 {out} => @ih x0 out
 unfold zaJ at h
 have E := evT
 rcases zac h with ⟨h1_, h⟩ | ⟨h1_, h⟩
 obtain ⟨y4, h2_, h⟩ := zaa h
 obtain ⟨_, h3_⟩ := zaA h2_
 have h3_ := zav h3_ zao
 obtain ⟨_, h4_, h⟩ := zaa h
 have E := E.and (hB2 y4 (zah h4_))
 rcases zac h with ⟨h5_, h⟩ | ⟨h5_, h⟩
 all_goals
  first | (cases h; refine E.l fun n k x => ?_) | refine E.c (ih _ h) fun n k x I => ?_
  intro e m i0 i1 i2 i3 K R hK
  rw [zap]
  (conv => lhs; arg 4; whnf)
  first | (refine zt ?_; simp only [zaV] at hK; refine hK _ _ ?_; exact zs) | (refine zt ?_; refine zaf (I.1 _ _ ?_ ?_ ?_ ?_ _ _ hK); (iterate 4 exact zs)) | (refine zt ?_; simp only [zaV] at hK; refine hK _ _)
theorem zfv {kk : Nat} {a : (Sl zae)} {sz : Nat} (hg : zGY sz) {r : Int} (h : zbq kk sz a = some r) : Ev cfg 124 [(dSl zao a), (.fn (.func 93) [] [])] (.int .i64 r) := by
 unfold zbq at h
 have E := evT
 rcases zaw h with ⟨r8_, o7_, h⟩ | ⟨q6, o7_, h⟩
 obtain ⟨_, l6_, E⟩ := E.lp (zcp hg o7_)
 rotate_left
 obtain ⟨_, l9_, E⟩ := E.lp (zcp hg o7_)
 all_goals
  cases h
  refine E.s fun n x => ?_
  first | (have := l6_; refine zt ?_; refine zaf (l6_.1 n YJ _ _ ?_ ?_ ?_ ?_ _ _ ?_); (iterate 4 exact zs); simp only [zaV]; intro e m i0; exact zs) | (have := l9_; refine zt ?_; refine zaf (l9_.1 n YJ _ _ ?_ ?_ ?_ ?_ _ _ ?_); (iterate 4 exact zs); simp only [zaV]; intro e m; exact zs)
theorem zeH {kk : Nat} {a : (Sl zae)} {sz : Nat} (hg : zGY sz) {r : Bool} (h : zbe kk sz a = some r) : Ev cfg 92 [(dSl zao a), (.fn (.func 93) [] [])] (.bool r) := by
 have ⟨_, _, _, _, _, _, hI2, _⟩ := hg
 unfold zbe at h
 have E := evT
 obtain ⟨_, h1_, h⟩ := zaa h
 have E := E.and (hI2 a (zah h1_))
 cases h
 refine E.s fun n x => ?_
 exact zs
theorem zEc : ∀ s : Nat, s < big -> zGY s := by
 intro s
 induction s with
 | zero => intro _; exact ⟨fun _ h => absurd h YJ, fun _ h => absurd h YJ, fun _ h => absurd h YJ, fun _ h => absurd h YJ, fun _ h => absurd h YJ, fun _ h => absurd h YJ, fun _ h => absurd h YJ, fun _ h => absurd h YJ⟩
 | succ s ih =>
   intro hb
   have hg := ih YJ
   exact ⟨
    fun a h => zwj (sz := s) hg (zsT (kk := s + 1) (sz := s) YJ YJ YJ),
    fun a h => zrC (sz := s) hg (zo8 (kk := s + 1) (sz := s) YJ YJ YJ),
    fun a h => zpD (sz := s) hg (znI (kk := s + 1) (sz := s) YJ YJ YJ),
    fun a h => ze6 (sz := s) hg (zem (kk := s + 1) (sz := s) YJ YJ YJ),
    fun a h => zek (sz := s) hg (zdP (kk := s + 1) (sz := s) YJ YJ YJ),
    fun a h => zpC (sz := s) hg (znH (kk := s + 1) (sz := s) YJ YJ YJ),
    fun a h => zfv (sz := s) hg (zeM (kk := s + 1) (sz := s) YJ YJ YJ),
    fun a h => zeH (sz := s) hg (zec (kk := s + 1) (sz := s) YJ YJ YJ)⟩
theorem zkW (a : (Sl zam)) (h : 20 * zak a.l + 1 < big - 1) : Ev cfg 21 [(dSl zaq a)] (.bool (zb2 a)) := (zEc (big - 1) (by unfold big; omega)).1 a h
attribute [go_sem] func103 f103 func140 f140 func141 f141 func142 f142 func143 f143 func144 f144 func164 f164 func165 f165 func166 f166 func167 f167
abbrev zWq (sz : Nat) : Prop := (∀ (a : Int), (0 <= a /\ a <= 18446744073709551615 /\ (zBp a).length < sz) -> Ev cfg 140 [(.int .u64 a)] (.str (zBp a)))
theorem zGI {kk : Nat} {a : Int} {sz : Nat} (hg : zWq sz) {r : Str} (h : zoF kk sz a = some r) : Ev cfg 140 [(.int .u64 a)] (.str r) := by
 have hD := hg
 unfold zoF at h
 have E := evT
 rcases zac h with ⟨h1_, h⟩ | ⟨h1_, h⟩
 rotate_left
 obtain ⟨_, h2_, h⟩ := zaa h
 have E := E.and (hD (IntKind.wrap .u64 (a.tdiv 10)) (zah h2_))
 obtain ⟨_, h3_, h⟩ := zaa h
 have h3_ := zah h3_
 try simp -dsimp -implicitDefEqProofs only [go_sem, simprocAttr] at h3_
 all_goals
  cases h
  refine E.s fun n x => ?_
  exact zs
theorem zBu : ∀ s : Nat, s < big -> zWq s := by
 intro s
 induction s with
 | zero => intro _; exact fun _ h => absurd h YJ
 | succ s ih =>
   intro hb
   have hg := ih YJ
   exact
    fun a h => zGI (sz := s) hg (zBc (kk := s + 1) (sz := s) YJ YJ YJ)
theorem zyI (a : Int) (h : (0 <= a /\ a <= 18446744073709551615 /\ (zBp a).length < big - 1)) : Ev cfg 140 [(.int .u64 a)] (.str (zBp a)) := (zBu (big - 1) (by unfold big; omega)) a h
theorem zEk {kk : Nat} {a : Int} {r : Str} (h : zmS kk a = some r) : Ev cfg 103 [(.int .i64 a)] (.str r) := by
 unfold zmS at h
 have E := evT
 rcases zac h with ⟨h1_, h⟩ | ⟨h1_, h⟩
 obtain ⟨_, h2_, h⟩ := zaa h
 have E := E.and (zyI (IntKind.wrap .u64 (0 - (IntKind.wrap .u64 a))) (zah h2_))
 obtain ⟨_, h3_, h⟩ := zaa h
 have h3_ := zah h3_
 try simp -dsimp -implicitDefEqProofs only [go_sem, simprocAttr] at h3_
 rotate_left
 obtain ⟨_, h4_, h⟩ := zaa h
 have E := E.and (zyI (IntKind.wrap .u64 a) (zah h4_))
 all_goals
  cases h
  refine E.s fun n x => ?_
  exact zs
theorem zkU (a : Int) (h : zkY a) : Ev cfg 103 [(.int .i64 a)] (.str (zb8 a)) := zEk (zy5 0 a h)
def zkJ (c4 : Val) (K : YK) (R : YL) : Out (Str) (Str × Int) -> Prop
 | .ret r => ∀ (e : Env) (m : Mem), e 2 = (.str r) -> K .ret ⟨e, m⟩ = R
 | .done q => ∀ (e : Env) (m : Mem), e 3 = (.str q.1) -> K (.exit 0) ⟨e, m⟩ = R
noncomputable def zBl : Code := za4 f143 [1, 1, 1, 1, 1, 0, 1, 0, 0]
theorem zsK {c4 : Val} {kk : Nat} : ∀ {k : Nat} {s2 : Str} {s3 : Int} {out : Out (Str) (Str × Int)}, zgN c4 kk k s2 s3 = some out -> ∃ N, ∀ n, N <= n -> ∀ k, N <= k -> ∀ (e : Env) (m : Mem), zb9 (e 1) m 1 3 (zd0 c4) -> e 3 = (.str s2) -> e 4 = (.int .i64 s3) -> ∀ (K : YK) (R : YL), zkJ c4 K R out -> zbU (zbt cfg (dfn cfg n) n zBl) K k ⟨e, m⟩ = R := by
 intro k
 induction k with
 | zero => intro s2 s3 out h; cases h
 | succ k ih => ?_
 intro s2 s3 out h
 have ih := fun x0 x1 {out} => @ih x0 x1 out
 unfold zgN at h
 have E := evT
 rcases zac h with ⟨h1_, h⟩ | ⟨h1_, h⟩
 obtain ⟨y5, h2_, h⟩ := zaa h
 have h2_ : zfr prog (some (.int .i64 s3)) (some (.int .i64 (IntKind.wrap .i64 (s3 + 1)))) none (.str c4.text) .str = pure (.str y5) := zlr h2_ prog
 obtain ⟨_, h3_, h⟩ := zaa h
 have h3_ := zah h3_
 try simp -dsimp -implicitDefEqProofs only [go_sem, simprocAttr] at h3_
 obtain ⟨y7, h4_, h⟩ := zaa h
 obtain ⟨_, h5_⟩ := zaA h4_
 rcases zac h with ⟨h6_, h⟩ | ⟨h6_, h⟩
 obtain ⟨_, h7_, h⟩ := zaa h
 have h7_ := zah h7_
 try simp -dsimp -implicitDefEqProofs only [go_sem, simprocAttr] at h7_
 all_goals
  first | (cases h; refine E.l fun n k x => ?_) | refine E.c (ih _ _ h) fun n k x I => ?_
  intro e m i0 i1 i2 K R hK
  obtain ⟨_, _, _⟩ := i0
  rw [zap]
  (conv => lhs; arg 4; whnf)
  first | (refine zt ?_; refine zaf (I.1 _ _ ?_ ?_ ?_ _ _ hK); (iterate 3 exact zs)) | (refine zt ?_; simp only [zkJ] at hK; refine hK _ _ ?_; exact zs)
theorem zGH {kk : Nat} {a : Val} {r : Str} (h : zoE kk a = some r) : Ev cfg 143 [(.agg (zd0 a))] (.str r) := by
 unfold zoE at h
 have E := evT
 have E := E.and (znQ a)
 rcases zac h with ⟨h8_, h⟩ | ⟨h8_, h⟩
 have b9_ := zan h8_
 rotate_left
 have b10_ := zal h8_
 rcases zac h with ⟨h11_, h⟩ | ⟨h11_, h⟩
 obtain ⟨_, h12_, h⟩ := zaa h
 have E := E.and (zkU a.int (zah h12_))
 rotate_left
 rcases zac h with ⟨h13_, h⟩ | ⟨h13_, h⟩
 rcases zac h with ⟨h14_, h⟩ | ⟨h14_, h⟩
 rotate_left
 rotate_left
 rcases zaw h with ⟨r17_, o16_, h⟩ | ⟨q9, o16_, h⟩
 obtain ⟨_, l15_, E⟩ := E.lp (zsK o16_)
 rotate_left
 obtain ⟨_, l18_, E⟩ := E.lp (zsK o16_)
 obtain ⟨_, h19_, h⟩ := zaa h
 have h19_ := zah h19_
 try simp -dsimp -implicitDefEqProofs only [go_sem, simprocAttr] at h19_
 all_goals
  cases h
  refine E.s fun n x => ?_
  first | (have := l15_; refine zt ?_; refine zaf (l15_.1 n YJ _ _ ?_ ?_ ?_ _ _ ?_); (iterate 3 exact zs); simp only [zkJ]; intro e m i0; exact zs) | (have := l18_; refine zt ?_; refine zaf (l18_.1 n YJ _ _ ?_ ?_ ?_ _ _ ?_); (iterate 3 exact zs); simp only [zkJ]; intro e m i0; exact zs) | (exact zs)
theorem zyH (a : Val) (h : zkY a.int) : Ev cfg 143 [(.agg (zd0 a))] (.str (zdD a)) := zGH (zBb (kk := big) a h (by decide))
theorem zBW {kk : Nat} {a : Int} {r : Str} (h : zlF kk a = some r) : Ev cfg 142 [(.int .i64 a)] (.str r) := by
 unfold zlF at h
 have E := evT
 obtain ⟨y1, h1_, h⟩ := zaa h
 have dh1_ := zTs h1_
 obtain ⟨_, h2_⟩ := zaA h1_
 have h2_ := zav h2_ zsz
 try simp -dsimp -implicitDefEqProofs only [go_sem, simprocAttr] at h2_
 try simp -dsimp -implicitDefEqProofs only [go_sem, simprocAttr] at dh1_
 cases h
 refine E.s fun n x => ?_
 exact zs
theorem zB8 (a : Int) (h : 0 <= a /\ a <= 3) : Ev cfg 142 [(.int .i64 a)] (.str (nth zde a)) := zBW (zx0 0 a h)
theorem zGF {kk : Nat} {a : Int} {r : Str} (h : zoC kk a = some r) : Ev cfg 144 [(.int .i64 a)] (.str r) := by
 unfold zoC at h
 have E := evT
 obtain ⟨y1, h1_, h⟩ := zaa h
 have dh1_ := zTs h1_
 obtain ⟨_, h2_⟩ := zaA h1_
 have h2_ := zav h2_ zsz
 try simp -dsimp -implicitDefEqProofs only [go_sem, simprocAttr] at h2_
 try simp -dsimp -implicitDefEqProofs only [go_sem, simprocAttr] at dh1_
 cases h
 refine E.s fun n x => ?_
 exact zs
theorem zGO (a : Int) (h : 5 <= a /\ a <= 10) : Ev cfg 144 [(.int .i64 a)] (.str (opS a)) := zGF (zA9 0 a h)
theorem zEh {kk : Nat} {a : zbZ} {r : Str} (h : zmP kk a = some r) : Ev cfg 141 [(.agg (zev a))] (.str r) := by
 unfold zmP at h
 have E := evT
 obtain ⟨_, h1_, h⟩ := zaa h
 have E := E.and (zkU a.table (zah h1_))
 obtain ⟨_, h2_, h⟩ := zaa h
 have h2_ := zah h2_
 try simp -dsimp -implicitDefEqProofs only [go_sem, simprocAttr] at h2_
 obtain ⟨_, h3_, h⟩ := zaa h
 have h3_ := zah h3_
 try simp -dsimp -implicitDefEqProofs only [go_sem, simprocAttr] at h3_
 obtain ⟨_, h4_, h⟩ := zaa h
 have E := E.and (zkU a.seq (zah h4_))
 obtain ⟨_, h5_, h⟩ := zaa h
 have h5_ := zah h5_
 try simp -dsimp -implicitDefEqProofs only [go_sem, simprocAttr] at h5_
 cases h
 refine E.s fun n x => ?_
 exact zs
theorem zEx (a : zbZ) (h : zw1 a) : Ev cfg 141 [(.agg (zev a))] (.str (zs9 a)) := zEh (zy2 0 a h)
theorem zAQ {kk : Nat} {a : zbZ} {r : Str} (h : zkQ kk a = some r) : Ev cfg 164 [(.agg (zev a))] (.str r) := by
 unfold zkQ at h
 have E := evT
 have E := E.and (zut a)
 rcases zac h with ⟨h1_, h⟩ | ⟨h1_, h⟩
 have b2_ := zan h1_
 rotate_left
 have b3_ := zal h1_
 obtain ⟨_, h4_, h⟩ := zaa h
 have e5_ := zz4 a.table (zah h4_)
 obtain ⟨_, h6_, h⟩ := zaa h
 have h6_ := zah h6_
 try simp -dsimp -implicitDefEqProofs only [go_sem, simprocAttr] at h6_
 obtain ⟨_, h7_, h⟩ := zaa h
 have h7_ := zah h7_
 try simp -dsimp -implicitDefEqProofs only [go_sem, simprocAttr] at h7_
 obtain ⟨_, h8_, h⟩ := zaa h
 have e9_ := zz4 a.seq (zah h8_)
 obtain ⟨_, h10_, h⟩ := zaa h
 have h10_ := zah h10_
 try simp -dsimp -implicitDefEqProofs only [go_sem, simprocAttr] at h10_
 all_goals
  cases h
  refine E.s fun n x => ?_
  exact zs
theorem zBf (a : zbZ) (h : zw1 a) : Ev cfg 164 [(.agg (zev a))] (.str (zj5 a)) := zAQ (zwE 0 a h)
theorem zrE {kk : Nat} {r : (Sl Str)} (h : zh7 kk = some r) : Ev cfg 166 [] (dSl zsz r) := by
 unfold zh7 at h
 have E := evT
 cases h
 refine E.s fun n x => ?_
 exact zs
theorem zk5  : Ev cfg 166 [] (dSl zsz (zly )) := zrE (zpa 0 )
theorem zrD {kk : Nat} {r : (Sl Str)} (h : zh6 kk = some r) : Ev cfg 167 [] (dSl zsz r) := by
 unfold zh6 at h
 have E := evT
 cases h
 refine E.s fun n x => ?_
 exact zs
theorem zk4  : Ev cfg 167 [] (dSl zsz (zgZ )) := zrD (zo9 0 )
theorem zBO {kk : Nat} {a : Val} {r : Str} (h : zlB kk a = some r) : Ev cfg 165 [(.agg (zd0 a))] (.str r) := by
 unfold zlB at h
 have E := evT
 have E := E.and (zje a)
 rcases zac h with ⟨h1_, h⟩ | ⟨h1_, h⟩
 have b2_ := zan h1_
 rotate_left
 have b3_ := zal h1_
 rcases zac h with ⟨h4_, h⟩ | ⟨h4_, h⟩
 obtain ⟨_, h5_, h⟩ := zaa h
 have e6_ : ziV [(.int .i64 a.int), (.int .i64 10)] = some (.str (zvV a.int 10)) := zoO a.int 10 (zah h5_)
 rotate_left
 rcases zac h with ⟨h7_, h⟩ | ⟨h7_, h⟩
 obtain ⟨_, h8_, h⟩ := zaa h
 have e9_ := znf a.text [39] [39, 39] (zah h8_)
 obtain ⟨_, h10_, h⟩ := zaa h
 have h10_ := zah h10_
 try simp -dsimp -implicitDefEqProofs only [go_sem, simprocAttr] at h10_
 obtain ⟨_, h11_, h⟩ := zaa h
 have h11_ := zah h11_
 try simp -dsimp -implicitDefEqProofs only [go_sem, simprocAttr] at h11_
 rotate_left
 rcases zac h with ⟨h12_, h⟩ | ⟨h12_, h⟩
 all_goals
  cases h
  refine E.s fun n x => ?_
  exact zs
theorem zus (a : Val) (h : zkY a.int) : Ev cfg 165 [(.agg (zd0 a))] (.str (zdD a)) := zBO (zxT 0 a h)
attribute [go_sem] func50 f50 func54 f54 func97 f97 func104 f104 func127 f127
def zqU (c24 : Sl zam) (c25 : Str) (c26 : Int) (c27 : Str) (c28 : Int) (c29 : Bool) (K : YK) (R : YL) (q : Str) : Prop := ∀ (e : Env) (m : Mem), e 0 = (dSl zaq c24) -> e 3 = (.str c25) -> e 4 = (.int .i64 c26) -> e 5 = (.str q) -> e 6 = (.int .i64 c28) -> K .normal ⟨e, m⟩ = R
noncomputable def zwU : Code := za4 f54 [1, 1, 1, 0, 1, 0, 0, 1, 0, 0, 1, 1, 1, 0, 1, 0, 0, 1, 0, 0, 0, 1]
abbrev zBZ (sz : Nat) : Prop := (∀ (a : (Sl zam)), (zdp a.l = true /\ zbB a.l /\ zak a.l < lim /\ 4 * zak a.l + 1 < sz) -> Ev cfg 54 [(dSl zaq a)] (.str (zcu a))) /\ (∀ (a : zas), (zgU a = true /\ zii a /\ zby a < lim /\ 4 * zby a < sz) -> Ev cfg 104 [(.agg (zbQ a))] (.str (zfK a)))
theorem zEm {c24 : Sl zam} {c25 : Str} {c26 : Int} {c27 : Str} {c28 : Int} {c29 : Bool} {sz : Nat} (hg : zBZ sz) {kk : Nat} {out : Str} (h : zox c24 c25 c26 c27 c28 c29 sz kk = some out) : ∃ N, ∀ n, N <= n -> ∀ (e : Env) (m : Mem), e 0 = (dSl zaq c24) -> e 3 = (.str c25) -> e 4 = (.int .i64 c26) -> e 5 = (.str c27) -> e 6 = (.int .i64 c28) -> e 52 = (.bool (c29)) -> ∀ (K : YK) (R : YL), zqU c24 c25 c26 c27 c28 c29 K R out -> zbt cfg (dfn cfg n) n zwU K ⟨e, m⟩ = R := by
 unfold zox at h
 have E := evT
 rcases zac h with ⟨h1_, h⟩ | ⟨h1_, h⟩
 obtain ⟨_, h2_, h⟩ := zaa h
 have h2_ := zah h2_
 try simp -dsimp -implicitDefEqProofs only [go_sem, simprocAttr] at h2_
 all_goals
  cases h
  refine E.j fun n x => ?_
  intro e m i0 i1 i2 i3 i4 i5 K R hK
  (conv => lhs; arg 4; whnf)
  refine zt ?_
  simp only [zqU] at hK
  refine hK _ _ ?_ ?_ ?_ ?_ ?_
  (iterate 5 exact zs)
def zmJ (c18 : Sl zam) (c19 : Str) (c20 : Int) (K : YK) (R : YL) : Out (Str) (Str × Int) -> Prop
 | .ret r => ∀ (e : Env) (m : Mem), e 2 = (.str r) -> K .ret ⟨e, m⟩ = R
 | .done q => ∀ (e : Env) (m : Mem), e 0 = (dSl zaq c18) -> e 3 = (.str c19) -> e 4 = (.int .i64 c20) -> e 5 = (.str q.1) -> K (.exit 2) ⟨e, m⟩ = R
noncomputable def zEB : Code := za4 f54 [1, 1, 1, 0, 1, 0, 0, 1, 0, 0, 1, 1, 1, 0, 1, 0, 0]
theorem zwm {c18 : Sl zam} {c19 : Str} {c20 : Int} {sz : Nat} (hg : zBZ sz) {kk : Nat} : ∀ {k : Nat} {s21 : Str} {s22 : Int} {out : Out (Str) (Str × Int)}, zdx c18 c19 c20 sz kk k s21 s22 = some out -> ∃ N, ∀ n, N <= n -> ∀ k, N <= k -> ∀ (e : Env) (m : Mem), e 0 = (dSl zaq c18) -> e 3 = (.str c19) -> e 4 = (.int .i64 c20) -> e 5 = (.str s21) -> e 6 = (.int .i64 s22) -> ∀ (K : YK) (R : YL), zmJ c18 c19 c20 K R out -> zbU (zbt cfg (dfn cfg n) n zEB) K k ⟨e, m⟩ = R := by
 have ⟨_, hX⟩ := hg
 intro k
 induction k with
 | zero => intro s21 s22 out h; cases h
 | succ k ih => ?_
 intro s21 s22 out h
 have ih := fun x0 x1 {out} => @ih x0 x1 out
 unfold zdx at h
 have E := evT
 obtain ⟨y23, h3_, h⟩ := zaa h
 obtain ⟨_, h4_⟩ := zaA h3_
 have h4_ := zav h4_ zaq
 rcases zac h with ⟨h5_, h⟩ | ⟨h5_, h⟩
 obtain ⟨q31, o7_, h⟩ := zaa h
 obtain ⟨_, l6_, E⟩ := E.lj (zEm hg o7_)
 obtain ⟨y32, h9_, h⟩ := zaa h
 obtain ⟨_, h10_⟩ := zaA h9_
 have h10_ := zav h10_ zaz
 obtain ⟨_, h11_, h⟩ := zaa h
 have E := E.and (hX y32.atom (zah h11_))
 obtain ⟨_, h12_, h⟩ := zaa h
 have h12_ := zah h12_
 try simp -dsimp -implicitDefEqProofs only [go_sem, simprocAttr] at h12_
 rcases zac h with ⟨h13_, h⟩ | ⟨h13_, h⟩
 obtain ⟨_, h14_, h⟩ := zaa h
 have h14_ := zah h14_
 try simp -dsimp -implicitDefEqProofs only [go_sem, simprocAttr] at h14_
 obtain ⟨_, h15_, h⟩ := zaa h
 have E := E.and (zkU y32.exp (zah h15_))
 obtain ⟨_, h16_, h⟩ := zaa h
 have h16_ := zah h16_
 try simp -dsimp -implicitDefEqProofs only [go_sem, simprocAttr] at h16_
 all_goals
  first | (cases h; refine E.l fun n k x => ?_) | refine E.c (ih _ _ h) fun n k x I => ?_
  intro e m i0 i1 i2 i3 i4 K R hK
  have j0 := zeU cfg (dfn cfg n) n zwU
  (conv at j0 => intro k s; lhs; arg 4; whnf)
  rw [zap]
  (conv => lhs; arg 4; whnf)
  first | (have := l6_; simp -dsimp -implicitDefEqProofs only [go_sem, ↓j0, *, simprocAttr]; refine zgv (l6_.1 n YJ _ _ ?_ ?_ ?_ ?_ ?_ ?_ _ _ ?_); (iterate 6 exact zs); simp only [zqU]; intro e m i0 i1 i2 i3 i4; (try simp -dsimp -implicitDefEqProofs only [go_sem, ↓j0, *, simprocAttr]); refine zaf (I.1 _ _ ?_ ?_ ?_ ?_ ?_ _ _ hK); (iterate 5 exact zs)) | ((try simp -dsimp -implicitDefEqProofs only [go_sem, ↓j0, *, simprocAttr]); simp only [zmJ] at hK; refine hK _ _ ?_ ?_ ?_ ?_; (iterate 4 exact zs))
def zqV (c11 : Sl zam) (c12 : Str) (c13 : Int) (c14 : Bool) (K : YK) (R : YL) (q : Str) : Prop := ∀ (e : Env) (m : Mem), e 0 = (dSl zaq c11) -> e 3 = (.str c12) -> e 4 = (.int .i64 c13) -> e 5 = (.str q) -> K .normal ⟨e, m⟩ = R
noncomputable def zwV : Code := za4 f54 [1, 1, 1, 0, 1, 0, 0, 1, 0, 0, 1, 1, 0, 1]
theorem zEn {c11 : Sl zam} {c12 : Str} {c13 : Int} {c14 : Bool} {sz : Nat} (hg : zBZ sz) {kk : Nat} {out : Str} (h : zj7 c11 c12 c13 c14 sz kk = some out) : ∃ N, ∀ n, N <= n -> ∀ (e : Env) (m : Mem), e 0 = (dSl zaq c11) -> e 3 = (.str c12) -> e 4 = (.int .i64 c13) -> e 5 = (.str []) -> e 34 = (.bool (c14)) -> ∀ (K : YK) (R : YL), zqV c11 c12 c13 c14 K R out -> zbt cfg (dfn cfg n) n zwV K ⟨e, m⟩ = R := by
 unfold zj7 at h
 have E := evT
 rcases zac h with ⟨h17_, h⟩ | ⟨h17_, h⟩
 obtain ⟨y15, h18_, h⟩ := zaa h
 obtain ⟨_, h19_⟩ := zaA h18_
 have h19_ := zav h19_ zaq
 obtain ⟨_, h20_, h⟩ := zaa h
 have E := E.and (zkU y15.coeff (zah h20_))
 all_goals
  cases h
  refine E.j fun n x => ?_
  intro e m i0 i1 i2 i3 i4 K R hK
  (conv => lhs; arg 4; whnf)
  refine zt ?_
  simp only [zqV] at hK
  refine hK _ _ ?_ ?_ ?_ ?_
  (iterate 4 exact zs)
def zqW (c4 : Sl zam) (c5 : Str) (c6 : Int) (c7 : Bool) (K : YK) (R : YL) (q : Str) : Prop := ∀ (e : Env) (m : Mem), e 0 = (dSl zaq c4) -> e 3 = (.str q) -> e 4 = (.int .i64 c6) -> K .normal ⟨e, m⟩ = R
noncomputable def zwW : Code := za4 f54 [1, 1, 1, 0, 1, 0, 0, 1, 0, 0, 0, 1]
theorem zEo {c4 : Sl zam} {c5 : Str} {c6 : Int} {c7 : Bool} {sz : Nat} (hg : zBZ sz) {kk : Nat} {out : Str} (h : zoy c4 c5 c6 c7 sz kk = some out) : ∃ N, ∀ n, N <= n -> ∀ (e : Env) (m : Mem), e 0 = (dSl zaq c4) -> e 3 = (.str c5) -> e 4 = (.int .i64 c6) -> e 17 = (.bool (c7)) -> ∀ (K : YK) (R : YL), zqW c4 c5 c6 c7 K R out -> zbt cfg (dfn cfg n) n zwW K ⟨e, m⟩ = R := by
 unfold zoy at h
 have E := evT
 rcases zac h with ⟨h21_, h⟩ | ⟨h21_, h⟩
 obtain ⟨_, h22_, h⟩ := zaa h
 have h22_ := zah h22_
 try simp -dsimp -implicitDefEqProofs only [go_sem, simprocAttr] at h22_
 all_goals
  cases h
  refine E.j fun n x => ?_
  intro e m i0 i1 i2 i3 K R hK
  (conv => lhs; arg 4; whnf)
  refine zt ?_
  simp only [zqW] at hK
  refine hK _ _ ?_ ?_ ?_
  (iterate 3 exact zs)
def zkG (c1 : Sl zam) (K : YK) (R : YL) : Out (Str) (Str × Int) -> Prop
 | .ret r => ∀ (e : Env) (m : Mem), e 2 = (.str r) -> K .ret ⟨e, m⟩ = R
 | .done q => ∀ (e : Env) (m : Mem), e 3 = (.str q.1) -> K (.exit 0) ⟨e, m⟩ = R
noncomputable def zEC : Code := za4 f54 [1, 1, 1, 0, 1, 0, 0]
theorem zwn {c1 : Sl zam} {sz : Nat} (hg : zBZ sz) {kk : Nat} : ∀ {k : Nat} {s2 : Str} {s3 : Int} {out : Out (Str) (Str × Int)}, zfP c1 sz kk k s2 s3 = some out -> ∃ N, ∀ n, N <= n -> ∀ k, N <= k -> ∀ (e : Env) (m : Mem), e 0 = (dSl zaq c1) -> e 3 = (.str s2) -> e 4 = (.int .i64 s3) -> ∀ (K : YK) (R : YL), zkG c1 K R out -> zbU (zbt cfg (dfn cfg n) n zEC) K k ⟨e, m⟩ = R := by
 intro k
 induction k with
 | zero => intro s2 s3 out h; cases h
 | succ k ih => ?_
 intro s2 s3 out h
 have ih := fun x0 x1 {out} => @ih x0 x1 out
 unfold zfP at h
 have E := evT
 rcases zac h with ⟨h23_, h⟩ | ⟨h23_, h⟩
 obtain ⟨q9, o25_, h⟩ := zaa h
 obtain ⟨_, l24_, E⟩ := E.lj (zEo hg o25_)
 obtain ⟨y10, h27_, h⟩ := zaa h
 obtain ⟨_, h28_⟩ := zaA h27_
 have h28_ := zav h28_ zaq
 obtain ⟨q17, o30_, h⟩ := zaa h
 obtain ⟨_, l29_, E⟩ := E.lj (zEn hg o30_)
 rcases zaw h with ⟨r34_, o33_, h⟩ | ⟨q38, o33_, h⟩
 obtain ⟨_, l32_, E⟩ := E.lp (zwm hg o33_)
 rcases yG ((y10.coeff != 1)) with h35_ | h35_
 rotate_left
 rotate_left
 obtain ⟨_, l36_, E⟩ := E.lp (zwm hg o33_)
 obtain ⟨_, h37_, h⟩ := zaa h
 have h37_ := zah h37_
 try simp -dsimp -implicitDefEqProofs only [go_sem, simprocAttr] at h37_
 rcases yG ((y10.coeff != 1)) with h38_ | h38_
 all_goals
  first | (cases h; refine E.l fun n k x => ?_) | refine E.c (ih _ _ h) fun n k x I => ?_
  intro e m i0 i1 i2 K R hK
  have j0 := zeU cfg (dfn cfg n) n zwW
  (conv at j0 => intro k s; lhs; arg 4; whnf)
  have j1 := zeU cfg (dfn cfg n) n zwV
  (conv at j1 => intro k s; lhs; arg 4; whnf)
  rw [zap]
  (conv => lhs; arg 4; whnf)
  first | (have := l24_; simp -dsimp -implicitDefEqProofs only [go_sem, ↓j0, ↓j1, *, simprocAttr]; refine zgv (l24_.1 n YJ _ _ ?_ ?_ ?_ ?_ _ _ ?_); (iterate 4 exact zs); simp only [zqW]; intro e m i0 i1 i2; (try simp -dsimp -implicitDefEqProofs only [go_sem, ↓j0, ↓j1, *, simprocAttr]); refine zgv (l29_.1 n YJ _ _ ?_ ?_ ?_ ?_ ?_ _ _ ?_); (iterate 5 exact zs); simp only [zqV]; intro e m i0 i1 i2 i3; (first | (have := l32_; (try simp -dsimp -implicitDefEqProofs only [go_sem, ↓j0, ↓j1, *, simprocAttr]); refine zaf (l32_.1 n YJ _ _ ?_ ?_ ?_ ?_ ?_ _ _ ?_); (iterate 5 exact zs); simp only [zmJ]; intro e m i0; (try simp -dsimp -implicitDefEqProofs only [go_sem, ↓j0, ↓j1, *, simprocAttr]); simp only [zkG] at hK; refine hK _ _ ?_; exact zs) | (have := l36_; (try simp -dsimp -implicitDefEqProofs only [go_sem, ↓j0, ↓j1, *, simprocAttr]); refine zaf (l36_.1 n YJ _ _ ?_ ?_ ?_ ?_ ?_ _ _ ?_); (iterate 5 exact zs); simp only [zmJ]; intro e m i0 i1 i2 i3; (try simp -dsimp -implicitDefEqProofs only [go_sem, ↓j0, ↓j1, *, simprocAttr]); refine zaf (I.1 _ _ ?_ ?_ ?_ _ _ hK); (iterate 3 exact zs)))) | ((try simp -dsimp -implicitDefEqProofs only [go_sem, ↓j0, ↓j1, *, simprocAttr]); simp only [zkG] at hK; refine hK _ _ ?_; exact zs)
theorem zK6 {kk : Nat} {a : (Sl zam)} {sz : Nat} (hg : zBZ sz) {r : Str} (h : ztr kk sz a = some r) : Ev cfg 54 [(dSl zaq a)] (.str r) := by
 unfold ztr at h
 have E := evT
 rcases zac h with ⟨h39_, h⟩ | ⟨h39_, h⟩
 rotate_left
 rcases zaw h with ⟨r42_, o41_, h⟩ | ⟨q40, o41_, h⟩
 obtain ⟨_, l40_, E⟩ := E.lp (zwn hg o41_)
 rotate_left
 obtain ⟨_, l43_, E⟩ := E.lp (zwn hg o41_)
 all_goals
  cases h
  refine E.s fun n x => ?_
  first | (have := l40_; refine zt ?_; refine zaf (l40_.1 n YJ _ _ ?_ ?_ ?_ _ _ ?_); (iterate 3 exact zs); simp only [zkG]; intro e m i0; exact zs) | (have := l43_; refine zt ?_; refine zaf (l43_.1 n YJ _ _ ?_ ?_ ?_ _ _ ?_); (iterate 3 exact zs); simp only [zkG]; intro e m i0; exact zs) | (exact zs)
def zlm (c24 : Str) (c25 : Int) (c26 : Bool) (c27 : zas) (K : YK) (R : YL) (q : Str) : Prop := ∀ (e : Env) (m : Mem), zb9 (e 1) m 1 10 (zbQ c27) -> e 3 = (.str q) -> e 4 = (.int .i64 c25) -> K .normal ⟨e, m⟩ = R
noncomputable def zpU : Code := za4 f104 [1, 1, 1, 0, 1, 0, 0, 1, 0, 0, 0, 1]
theorem zxO {c24 : Str} {c25 : Int} {c26 : Bool} {c27 : zas} {sz : Nat} (hg : zBZ sz) {kk : Nat} {out : Str} (h : zjL c24 c25 c26 c27 sz kk = some out) : ∃ N, ∀ n, N <= n -> ∀ (e : Env) (m : Mem), zb9 (e 1) m 1 10 (zbQ c27) -> e 3 = (.str c24) -> e 4 = (.int .i64 c25) -> e 59 = (.bool (c26)) -> ∀ (K : YK) (R : YL), zlm c24 c25 c26 c27 K R out -> zbt cfg (dfn cfg n) n zpU K ⟨e, m⟩ = R := by
 unfold zjL at h
 have E := evT
 rcases zac h with ⟨h1_, h⟩ | ⟨h1_, h⟩
 obtain ⟨_, h2_, h⟩ := zaa h
 have h2_ := zah h2_
 try simp -dsimp -implicitDefEqProofs only [go_sem, simprocAttr] at h2_
 all_goals
  cases h
  refine E.j fun n x => ?_
  intro e m i0 i1 i2 i3 K R hK
  obtain ⟨_, _, _⟩ := i0
  (conv => lhs; arg 4; whnf)
  refine zt ?_
  simp only [zlm] at hK
  refine hK _ _ ?_ ?_ ?_
  (iterate 3 exact zs)
def zi2 (c23 : zas) (K : YK) (R : YL) : Out (Str) (Str × Int) -> Prop
 | .ret r => ∀ (e : Env) (m : Mem), e 2 = (.str r) -> K .ret ⟨e, m⟩ = R
 | .done q => ∀ (e : Env) (m : Mem), zb9 (e 1) m 1 10 (zbQ c23) -> e 3 = (.str q.1) -> K (.exit 1) ⟨e, m⟩ = R
noncomputable def zx8 : Code := za4 f104 [1, 1, 1, 0, 1, 0, 0]
theorem zpL {c23 : zas} {sz : Nat} (hg : zBZ sz) {kk : Nat} : ∀ {k : Nat} {s21 : Str} {s22 : Int} {out : Out (Str) (Str × Int)}, zcQ c23 sz kk k s21 s22 = some out -> ∃ N, ∀ n, N <= n -> ∀ k, N <= k -> ∀ (e : Env) (m : Mem), zb9 (e 1) m 1 10 (zbQ c23) -> e 3 = (.str s21) -> e 4 = (.int .i64 s22) -> ∀ (K : YK) (R : YL), zi2 c23 K R out -> zbU (zbt cfg (dfn cfg n) n zx8) K k ⟨e, m⟩ = R := by
 have ⟨hT, _⟩ := hg
 intro k
 induction k with
 | zero => intro s21 s22 out h; cases h
 | succ k ih => ?_
 intro s21 s22 out h
 have ih := fun x0 x1 {out} => @ih x0 x1 out
 unfold zcQ at h
 have E := evT
 rcases zac h with ⟨h3_, h⟩ | ⟨h3_, h⟩
 obtain ⟨q29, o5_, h⟩ := zaa h
 obtain ⟨_, l4_, E⟩ := E.lj (zxO hg o5_)
 obtain ⟨y30, h7_, h⟩ := zaa h
 obtain ⟨_, h8_⟩ := zaA h7_
 have h8_ := zav h8_ zao
 obtain ⟨_, h9_, h⟩ := zaa h
 have E := E.and (zyH y30.value (zah h9_))
 obtain ⟨_, h10_, h⟩ := zaa h
 have h10_ := zah h10_
 try simp -dsimp -implicitDefEqProofs only [go_sem, simprocAttr] at h10_
 obtain ⟨_, h11_, h⟩ := zaa h
 have h11_ := zah h11_
 try simp -dsimp -implicitDefEqProofs only [go_sem, simprocAttr] at h11_
 obtain ⟨_, h12_, h⟩ := zaa h
 have E := E.and (hT y30.ann (zah h12_))
 obtain ⟨_, h13_, h⟩ := zaa h
 have h13_ := zah h13_
 try simp -dsimp -implicitDefEqProofs only [go_sem, simprocAttr] at h13_
 all_goals
  first | (cases h; refine E.l fun n k x => ?_) | refine E.c (ih _ _ h) fun n k x I => ?_
  intro e m i0 i1 i2 K R hK
  obtain ⟨_, _, _⟩ := i0
  have j0 := zeU cfg (dfn cfg n) n zpU
  (conv at j0 => intro k s; lhs; arg 4; whnf)
  rw [zap]
  (conv => lhs; arg 4; whnf)
  first | (have := l4_; simp -dsimp -implicitDefEqProofs only [go_sem, ↓j0, *, simprocAttr]; refine zgv (l4_.1 n YJ _ _ ?_ ?_ ?_ ?_ _ _ ?_); (iterate 4 exact zs); simp only [zlm]; intro e m i0 i1 i2; obtain ⟨_, _, _⟩ := i0; (try simp -dsimp -implicitDefEqProofs only [go_sem, ↓j0, *, simprocAttr]); refine zaf (I.1 _ _ ?_ ?_ ?_ _ _ hK); (iterate 3 exact zs)) | ((try simp -dsimp -implicitDefEqProofs only [go_sem, ↓j0, *, simprocAttr]); simp only [zi2] at hK; refine hK _ _ ?_ ?_; (iterate 2 exact zs))
theorem zBV {kk : Nat} {a : zas} {sz : Nat} (hg : zBZ sz) {r : Str} (h : zlE kk sz a = some r) : Ev cfg 104 [(.agg (zbQ a))] (.str r) := by
 have ⟨hT, _⟩ := hg
 unfold zlE at h
 have E := evT
 rcases zac h with ⟨h14_, h⟩ | ⟨h14_, h⟩
 obtain ⟨_, h15_, h⟩ := zaa h
 have E := E.and (zEx a.row (zah h15_))
 rotate_left
 rcases zac h with ⟨h16_, h⟩ | ⟨h16_, h⟩
 obtain ⟨y2, h17_, h⟩ := zaa h
 have h17_ := zav h17_ (cSl zaq)
 obtain ⟨_, h18_, h⟩ := zaa h
 have E := E.and (hT y2 (zah h18_))
 obtain ⟨_, h19_, h⟩ := zaa h
 have h19_ := zah h19_
 try simp -dsimp -implicitDefEqProofs only [go_sem, simprocAttr] at h19_
 obtain ⟨_, h20_, h⟩ := zaa h
 have h20_ := zah h20_
 try simp -dsimp -implicitDefEqProofs only [go_sem, simprocAttr] at h20_
 obtain ⟨y6, h21_, h⟩ := zaa h
 have h21_ := zav h21_ (cSl zaq)
 obtain ⟨_, h22_, h⟩ := zaa h
 have E := E.and (hT y6 (zah h22_))
 obtain ⟨_, h23_, h⟩ := zaa h
 have h23_ := zah h23_
 try simp -dsimp -implicitDefEqProofs only [go_sem, simprocAttr] at h23_
 obtain ⟨_, h24_, h⟩ := zaa h
 have h24_ := zah h24_
 try simp -dsimp -implicitDefEqProofs only [go_sem, simprocAttr] at h24_
 rotate_left
 rcases zac h with ⟨h25_, h⟩ | ⟨h25_, h⟩
 obtain ⟨y10, h26_, h⟩ := zaa h
 have h26_ := zav h26_ (cSl zaq)
 obtain ⟨_, h27_, h⟩ := zaa h
 have E := E.and (hT y10 (zah h27_))
 obtain ⟨_, h28_, h⟩ := zaa h
 have h28_ := zah h28_
 try simp -dsimp -implicitDefEqProofs only [go_sem, simprocAttr] at h28_
 obtain ⟨_, h29_, h⟩ := zaa h
 have h29_ := zah h29_
 try simp -dsimp -implicitDefEqProofs only [go_sem, simprocAttr] at h29_
 rotate_left
 rcases zac h with ⟨h30_, h⟩ | ⟨h30_, h⟩
 obtain ⟨y14, h31_, h⟩ := zaa h
 have h31_ := zav h31_ (cSl zaq)
 obtain ⟨_, h32_, h⟩ := zaa h
 have E := E.and (hT y14 (zah h32_))
 obtain ⟨_, h33_, h⟩ := zaa h
 have h33_ := zah h33_
 try simp -dsimp -implicitDefEqProofs only [go_sem, simprocAttr] at h33_
 obtain ⟨_, h34_, h⟩ := zaa h
 have h34_ := zah h34_
 try simp -dsimp -implicitDefEqProofs only [go_sem, simprocAttr] at h34_
 rotate_left
 obtain ⟨_, h35_, h⟩ := zaa h
 have E := E.and (zB8 a.func (zah h35_))
 obtain ⟨_, h36_, h⟩ := zaa h
 have h36_ := zah h36_
 try simp -dsimp -implicitDefEqProofs only [go_sem, simprocAttr] at h36_
 obtain ⟨_, h37_, h⟩ := zaa h
 have h37_ := zah h37_
 try simp -dsimp -implicitDefEqProofs only [go_sem, simprocAttr] at h37_
 rcases zaw h with ⟨r40_, o39_, h⟩ | ⟨q36, o39_, h⟩
 obtain ⟨_, l38_, E⟩ := E.lp (zpL hg o39_)
 rotate_left
 obtain ⟨_, l41_, E⟩ := E.lp (zpL hg o39_)
 obtain ⟨_, h42_, h⟩ := zaa h
 have h42_ := zah h42_
 try simp -dsimp -implicitDefEqProofs only [go_sem, simprocAttr] at h42_
 obtain ⟨_, h43_, h⟩ := zaa h
 have E := E.and (zGO a.op (zah h43_))
 obtain ⟨_, h44_, h⟩ := zaa h
 have h44_ := zah h44_
 try simp -dsimp -implicitDefEqProofs only [go_sem, simprocAttr] at h44_
 obtain ⟨_, h45_, h⟩ := zaa h
 have h45_ := zah h45_
 try simp -dsimp -implicitDefEqProofs only [go_sem, simprocAttr] at h45_
 obtain ⟨_, h46_, h⟩ := zaa h
 have E := E.and (zyH a.bound (zah h46_))
 obtain ⟨_, h47_, h⟩ := zaa h
 have h47_ := zah h47_
 try simp -dsimp -implicitDefEqProofs only [go_sem, simprocAttr] at h47_
 obtain ⟨_, h48_, h⟩ := zaa h
 have h48_ := zah h48_
 try simp -dsimp -implicitDefEqProofs only [go_sem, simprocAttr] at h48_
 all_goals
  cases h
  refine E.s fun n x => ?_
  first | (have := l38_; refine zt ?_; refine zaf (l38_.1 n YJ _ _ ?_ ?_ ?_ _ _ ?_); (iterate 3 exact zs); simp only [zi2]; intro e m i0; exact zs) | (have := l41_; refine zt ?_; refine zaf (l41_.1 n YJ _ _ ?_ ?_ ?_ _ _ ?_); (iterate 3 exact zs); simp only [zi2]; intro e m i0 i1; obtain ⟨_, _, _⟩ := i0; exact zs) | (exact zs)
theorem zFj : ∀ s : Nat, s < big -> zBZ s := by
 intro s
 induction s with
 | zero => intro _; exact ⟨fun _ h => absurd h YJ, fun _ h => absurd h YJ⟩
 | succ s ih =>
   intro hb
   have hg := ih YJ
   exact ⟨
    fun a h => zK6 (sz := s) hg (zEr (kk := s + 1) (sz := s) YJ YJ YJ),
    fun a h => zBV (sz := s) hg (zxZ (kk := s + 1) (sz := s) YJ YJ YJ)⟩
theorem zLd (a : (Sl zam)) (h : (zdp a.l = true /\ zbB a.l /\ zak a.l < lim /\ 4 * zak a.l + 1 < big - 1)) : Ev cfg 54 [(dSl zaq a)] (.str (zcu a)) := (zFj (big - 1) (by unfold big; omega)).1 a h
def zg1 (c2 : Sl zam) (c3 : Int) (K : YK) (R : YL) : Out (Str) (List Str × Int) -> Prop
 | .ret r => ∀ (e : Env) (m : Mem), e 2 = (.str r) -> K .ret ⟨e, m⟩ = R
 | .done q => ∀ (e : Env) (m : Mem), zqZ (e 3) m [25, 36, 46] 1 zsz q.1 -> K (.exit 0) ⟨e, m⟩ = R
noncomputable def zt6 : Code := za4 f50 [1, 1, 1, 0, 1, 0, 0]
abbrev zIt (sz : Nat) : Prop := (∀ (a : (Sl zam)), (zdp a.l = true /\ zbB a.l /\ zak a.l < lim /\ 4 * zak a.l + 1 < sz) -> Ev cfg 50 [(dSl zaq a)] (.str (zcu a))) /\ (∀ (a : (Sl zaj)), ((∀ f ∈ a.l, zgE f = true /\ zh9 f) /\ zaD a.l < lim /\ 4 * zaD a.l + 2 < sz) -> Ev cfg 97 [(dSl zaz a)] (.str (zvk a))) /\ (∀ (a : zas), (zgU a = true /\ zii a /\ zby a < lim /\ 4 * zby a < sz) -> Ev cfg 127 [(.agg (zbQ a))] (.str (zfK a)))
theorem zmo {c2 : Sl zam} {c3 : Int} {sz : Nat} (hg : zIt sz) {kk : Nat} : ∀ {k : Nat} {s1 : List Str} {s4 : Int} {out : Out (Str) (List Str × Int)}, zb5 c2 c3 sz kk k s1 s4 = some out -> ∃ N, ∀ n, N <= n -> ∀ k, N <= k -> ∀ (e : Env) (m : Mem), zqZ (e 3) m [25, 36, 46] 1 zsz s1 -> e 9 = (dSl zaq c2) -> e 10 = (.int .i64 c3) -> e 11 = (.int .i64 s4) -> ∀ (K : YK) (R : YL), zg1 c2 c3 K R out -> zbU (zbt cfg (dfn cfg n) n zt6) K k ⟨e, m⟩ = R := by
 have ⟨_, hF, _⟩ := hg
 intro k
 induction k with
 | zero => intro s1 s4 out h; cases h
 | succ k ih => ?_
 intro s1 s4 out h
 have ih := fun x0 x1 {out} => @ih x0 x1 out
 unfold zb5 at h
 have E := evT
 rcases zac h with ⟨h1_, h⟩ | ⟨h1_, h⟩
 obtain ⟨y5, h2_, h⟩ := zaa h
 obtain ⟨_, h3_⟩ := zaA h2_
 have h3_ := zav h3_ zaq
 rcases zac h with ⟨h4_, h⟩ | ⟨h4_, h⟩
 obtain ⟨_, h5_, h⟩ := zaa h
 have e6_ : ziV [(.int .i64 y5.coeff), (.int .i64 10)] = some (.str (zvV y5.coeff 10)) := zoO y5.coeff 10 (zah h5_)
 obtain ⟨_, h7_, h⟩ := zaa h
 have h7_ := zah h7_
 try simp -dsimp -implicitDefEqProofs only [go_sem, simprocAttr] at h7_
 rotate_left
 rcases zac h with ⟨h8_, h⟩ | ⟨h8_, h⟩
 obtain ⟨_, h9_, h⟩ := zaa h
 have E := E.and (hF y5.factors (zah h9_))
 obtain ⟨_, h10_, h⟩ := zaa h
 have h10_ := zah h10_
 try simp -dsimp -implicitDefEqProofs only [go_sem, simprocAttr] at h10_
 rotate_left
 obtain ⟨_, h11_, h⟩ := zaa h
 have e12_ : ziV [(.int .i64 y5.coeff), (.int .i64 10)] = some (.str (zvV y5.coeff 10)) := zoO y5.coeff 10 (zah h11_)
 obtain ⟨_, h13_, h⟩ := zaa h
 have h13_ := zah h13_
 try simp -dsimp -implicitDefEqProofs only [go_sem, simprocAttr] at h13_
 obtain ⟨_, h14_, h⟩ := zaa h
 have E := E.and (hF y5.factors (zah h14_))
 obtain ⟨_, h15_, h⟩ := zaa h
 have h15_ := zah h15_
 try simp -dsimp -implicitDefEqProofs only [go_sem, simprocAttr] at h15_
 obtain ⟨_, h16_, h⟩ := zaa h
 have h16_ := zah h16_
 try simp -dsimp -implicitDefEqProofs only [go_sem, simprocAttr] at h16_
 all_goals
  first | (cases h; refine E.l fun n k x => ?_) | refine E.c (ih _ _ h) fun n k x I => ?_
  intro e m i0 i1 i2 i3 K R hK
  rcases zPQ i0 with ⟨_, _⟩ | ⟨_, _, _, _⟩ | ⟨_, _, _, _⟩ | ⟨_, _, _, _⟩ <;> (rw [zap]; (conv => lhs; arg 4; whnf); (first | (refine zt ?_; refine zaf (I.1 _ _ ?_ ?_ ?_ ?_ _ _ hK); (iterate 4 exact zs)) | (refine zt ?_; simp only [zg1] at hK; refine hK _ _ ?_; exact zs)))
theorem zxL {kk : Nat} {a : (Sl zam)} {sz : Nat} (hg : zIt sz) {r : Str} (h : zjc kk sz a = some r) : Ev cfg 50 [(dSl zaq a)] (.str r) := by
 unfold zjc at h
 have E := evT
 rcases zac h with ⟨h17_, h⟩ | ⟨h17_, h⟩
 rotate_left
 rcases zaw h with ⟨r20_, o19_, h⟩ | ⟨q15, o19_, h⟩
 obtain ⟨_, l18_, E⟩ := E.lp (zmo hg o19_)
 rotate_left
 obtain ⟨_, l21_, E⟩ := E.lp (zmo hg o19_)
 obtain ⟨_, h22_, h⟩ := zaa h
 have e23_ := zz3 (Sl.out q15.1) [32, 43, 32] (zah h22_)
 all_goals
  cases h
  refine E.s fun n x => ?_
  (try simp -dsimp -implicitDefEqProofs only [go_sem, *, simprocAttr] at e23_)
  first | (have := l18_; refine zt ?_; refine zaf (l18_.1 n YJ _ _ ?_ ?_ ?_ ?_ _ _ ?_); (iterate 4 exact zs); simp only [zg1]; intro e m i0; (try simp -dsimp -implicitDefEqProofs only [go_sem, *, simprocAttr] at e23_); exact zs) | (have := l21_; refine zt ?_; refine zaf (l21_.1 n YJ _ _ ?_ ?_ ?_ ?_ _ _ ?_); (iterate 4 exact zs); simp only [zg1]; intro e m i0; rcases zPQ i0 with ⟨_, _⟩ | ⟨_, _, _, _⟩ | ⟨_, _, _, _⟩ | ⟨_, _, _, _⟩ <;> ((try simp -dsimp -implicitDefEqProofs only [go_sem, *, simprocAttr] at e23_); (try simp -dsimp -implicitDefEqProofs only [go_sem, *, simprocAttr] at e23_); exact zs)) | (exact zs)
def zdh (c2 : Sl zaj) (c3 : Int) (K : YK) (R : YL) : Out (Str) (List Str × Int) -> Prop
 | .ret r => ∀ (e : Env) (m : Mem), e 2 = (.str r) -> K .ret ⟨e, m⟩ = R
 | .done q => ∀ (e : Env) (m : Mem), zqZ (e 3) m [28] 1 zsz q.1 -> K (.exit 0) ⟨e, m⟩ = R
noncomputable def zmi : Code := za4 f97 [1, 1, 0, 1, 0, 0]
theorem zhW {c2 : Sl zaj} {c3 : Int} {sz : Nat} (hg : zIt sz) {kk : Nat} : ∀ {k : Nat} {s1 : List Str} {s4 : Int} {out : Out (Str) (List Str × Int)}, zbn c2 c3 sz kk k s1 s4 = some out -> ∃ N, ∀ n, N <= n -> ∀ k, N <= k -> ∀ (e : Env) (m : Mem), zqZ (e 3) m [28] 1 zsz s1 -> e 7 = (dSl zaz c2) -> e 8 = (.int .i64 c3) -> e 9 = (.int .i64 s4) -> ∀ (K : YK) (R : YL), zdh c2 c3 K R out -> zbU (zbt cfg (dfn cfg n) n zmi) K k ⟨e, m⟩ = R := by
 have ⟨_, _, hX⟩ := hg
 intro k
 induction k with
 | zero => intro s1 s4 out h; cases h
 | succ k ih => ?_
 intro s1 s4 out h
 have ih := fun x0 x1 {out} => @ih x0 x1 out
 unfold zbn at h
 have E := evT
 rcases zac h with ⟨h1_, h⟩ | ⟨h1_, h⟩
 obtain ⟨y5, h2_, h⟩ := zaa h
 obtain ⟨_, h3_⟩ := zaA h2_
 have h3_ := zav h3_ zaz
 obtain ⟨_, h4_, h⟩ := zaa h
 have E := E.and (hX y5.atom (zah h4_))
 rcases zac h with ⟨h5_, h⟩ | ⟨h5_, h⟩
 obtain ⟨_, h6_, h⟩ := zaa h
 have e7_ := zz4 y5.exp (zah h6_)
 obtain ⟨_, h8_, h⟩ := zaa h
 have h8_ := zah h8_
 try simp -dsimp -implicitDefEqProofs only [go_sem, simprocAttr] at h8_
 obtain ⟨_, h9_, h⟩ := zaa h
 have h9_ := zah h9_
 try simp -dsimp -implicitDefEqProofs only [go_sem, simprocAttr] at h9_
 obtain ⟨_, h10_, h⟩ := zaa h
 have h10_ := zah h10_
 try simp -dsimp -implicitDefEqProofs only [go_sem, simprocAttr] at h10_
 rotate_left
 obtain ⟨_, h11_, h⟩ := zaa h
 have h11_ := zah h11_
 try simp -dsimp -implicitDefEqProofs only [go_sem, simprocAttr] at h11_
 all_goals
  first | (cases h; refine E.l fun n k x => ?_) | refine E.c (ih _ _ h) fun n k x I => ?_
  intro e m i0 i1 i2 i3 K R hK
  rcases zsi i0 with ⟨_, _⟩ | ⟨_, _, _, _⟩ <;> (rw [zap]; (conv => lhs; arg 4; whnf); (first | (refine zt ?_; refine zaf (I.1 _ _ ?_ ?_ ?_ ?_ _ _ hK); (iterate 4 exact zs)) | (refine zt ?_; simp only [zdh] at hK; refine hK _ _ ?_; exact zs)))
theorem znZ {kk : Nat} {a : (Sl zaj)} {sz : Nat} (hg : zIt sz) {r : Str} (h : zdX kk sz a = some r) : Ev cfg 97 [(dSl zaz a)] (.str r) := by
 unfold zdX at h
 have E := evT
 rcases zaw h with ⟨r14_, o13_, h⟩ | ⟨q12, o13_, h⟩
 obtain ⟨_, l12_, E⟩ := E.lp (zhW hg o13_)
 rotate_left
 obtain ⟨_, l15_, E⟩ := E.lp (zhW hg o13_)
 obtain ⟨_, h16_, h⟩ := zaa h
 have e17_ := zz3 (Sl.out q12.1) [42] (zah h16_)
 all_goals
  cases h
  refine E.s fun n x => ?_
  (try simp -dsimp -implicitDefEqProofs only [go_sem, *, simprocAttr] at e17_)
  first | (have := l12_; refine zt ?_; refine zaf (l12_.1 n YJ _ _ ?_ ?_ ?_ ?_ _ _ ?_); (iterate 4 exact zs); simp only [zdh]; intro e m i0; (try simp -dsimp -implicitDefEqProofs only [go_sem, *, simprocAttr] at e17_); exact zs) | (have := l15_; refine zt ?_; refine zaf (l15_.1 n YJ _ _ ?_ ?_ ?_ ?_ _ _ ?_); (iterate 4 exact zs); simp only [zdh]; intro e m i0; rcases zsi i0 with ⟨_, _⟩ | ⟨_, _, _, _⟩ <;> ((try simp -dsimp -implicitDefEqProofs only [go_sem, *, simprocAttr] at e17_); (try simp -dsimp -implicitDefEqProofs only [go_sem, *, simprocAttr] at e17_); exact zs))
def zdQ (c19 : Sl zae) (c20 : Int) (c22 : zas) (K : YK) (R : YL) : Out (Str) (List Str × Int) -> Prop
 | .ret r => ∀ (e : Env) (m : Mem), e 2 = (.str r) -> K .ret ⟨e, m⟩ = R
 | .done q => ∀ (e : Env) (m : Mem), zb9 (e 1) m 1 10 (zbQ c22) -> zqZ (e 3) m [64] 1 zsz q.1 -> K (.exit 1) ⟨e, m⟩ = R
noncomputable def zn8 : Code := za4 f127 [1, 1, 1, 0, 1, 0, 0]
theorem zjg {c19 : Sl zae} {c20 : Int} {c22 : zas} {sz : Nat} (hg : zIt sz) {kk : Nat} : ∀ {k : Nat} {s18 : List Str} {s21 : Int} {out : Out (Str) (List Str × Int)}, zbR c19 c20 c22 sz kk k s18 s21 = some out -> ∃ N, ∀ n, N <= n -> ∀ k, N <= k -> ∀ (e : Env) (m : Mem), zb9 (e 1) m 1 10 (zbQ c22) -> zqZ (e 3) m [64] 1 zsz s18 -> e 48 = (dSl zao c19) -> e 49 = (.int .i64 c20) -> e 50 = (.int .i64 s21) -> ∀ (K : YK) (R : YL), zdQ c19 c20 c22 K R out -> zbU (zbt cfg (dfn cfg n) n zn8) K k ⟨e, m⟩ = R := by
 have ⟨hT, _, _⟩ := hg
 intro k
 induction k with
 | zero => intro s18 s21 out h; cases h
 | succ k ih => ?_
 intro s18 s21 out h
 have ih := fun x0 x1 {out} => @ih x0 x1 out
 unfold zbR at h
 have E := evT
 rcases zac h with ⟨h1_, h⟩ | ⟨h1_, h⟩
 obtain ⟨y23, h2_, h⟩ := zaa h
 obtain ⟨_, h3_⟩ := zaA h2_
 have h3_ := zav h3_ zao
 obtain ⟨_, h4_, h⟩ := zaa h
 have E := E.and (zus y23.value (zah h4_))
 obtain ⟨_, h5_, h⟩ := zaa h
 have h5_ := zah h5_
 try simp -dsimp -implicitDefEqProofs only [go_sem, simprocAttr] at h5_
 obtain ⟨_, h6_, h⟩ := zaa h
 have E := E.and (hT y23.ann (zah h6_))
 obtain ⟨_, h7_, h⟩ := zaa h
 have h7_ := zah h7_
 try simp -dsimp -implicitDefEqProofs only [go_sem, simprocAttr] at h7_
 obtain ⟨_, h8_, h⟩ := zaa h
 have h8_ := zah h8_
 try simp -dsimp -implicitDefEqProofs only [go_sem, simprocAttr] at h8_
 all_goals
  first | (cases h; refine E.l fun n k x => ?_) | refine E.c (ih _ _ h) fun n k x I => ?_
  intro e m i0 i1 i2 i3 i4 K R hK
  obtain ⟨_, _, _⟩ := i0
  rcases zsi i1 with ⟨_, _⟩ | ⟨_, _, _, _⟩ <;> (rw [zap]; (conv => lhs; arg 4; whnf); (first | (refine zt ?_; refine zaf (I.1 _ _ ?_ ?_ ?_ ?_ ?_ _ _ hK); (iterate 5 exact zs)) | (refine zt ?_; simp only [zdQ] at hK; refine hK _ _ ?_ ?_; (iterate 2 exact zs))))
theorem zqS {kk : Nat} {a : zas} {sz : Nat} (hg : zIt sz) {r : Str} (h : zfF kk sz a = some r) : Ev cfg 127 [(.agg (zbQ a))] (.str r) := by
 have ⟨hT, _, _⟩ := hg
 unfold zfF at h
 have E := evT
 rcases zac h with ⟨h9_, h⟩ | ⟨h9_, h⟩
 obtain ⟨_, h10_, h⟩ := zaa h
 have E := E.and (zBf a.row (zah h10_))
 rotate_left
 rcases zac h with ⟨h11_, h⟩ | ⟨h11_, h⟩
 obtain ⟨y2, h12_, h⟩ := zaa h
 have h12_ := zav h12_ (cSl zaq)
 obtain ⟨_, h13_, h⟩ := zaa h
 have E := E.and (hT y2 (zah h13_))
 obtain ⟨_, h14_, h⟩ := zaa h
 have h14_ := zah h14_
 try simp -dsimp -implicitDefEqProofs only [go_sem, simprocAttr] at h14_
 obtain ⟨_, h15_, h⟩ := zaa h
 have h15_ := zah h15_
 try simp -dsimp -implicitDefEqProofs only [go_sem, simprocAttr] at h15_
 obtain ⟨y6, h16_, h⟩ := zaa h
 have h16_ := zav h16_ (cSl zaq)
 obtain ⟨_, h17_, h⟩ := zaa h
 have E := E.and (hT y6 (zah h17_))
 obtain ⟨_, h18_, h⟩ := zaa h
 have h18_ := zah h18_
 try simp -dsimp -implicitDefEqProofs only [go_sem, simprocAttr] at h18_
 obtain ⟨_, h19_, h⟩ := zaa h
 have h19_ := zah h19_
 try simp -dsimp -implicitDefEqProofs only [go_sem, simprocAttr] at h19_
 rotate_left
 rcases zac h with ⟨h20_, h⟩ | ⟨h20_, h⟩
 obtain ⟨y10, h21_, h⟩ := zaa h
 have h21_ := zav h21_ (cSl zaq)
 obtain ⟨_, h22_, h⟩ := zaa h
 have E := E.and (hT y10 (zah h22_))
 obtain ⟨_, h23_, h⟩ := zaa h
 have h23_ := zah h23_
 try simp -dsimp -implicitDefEqProofs only [go_sem, simprocAttr] at h23_
 obtain ⟨_, h24_, h⟩ := zaa h
 have h24_ := zah h24_
 try simp -dsimp -implicitDefEqProofs only [go_sem, simprocAttr] at h24_
 rotate_left
 rcases zac h with ⟨h25_, h⟩ | ⟨h25_, h⟩
 obtain ⟨y14, h26_, h⟩ := zaa h
 have h26_ := zav h26_ (cSl zaq)
 obtain ⟨_, h27_, h⟩ := zaa h
 have E := E.and (hT y14 (zah h27_))
 obtain ⟨_, h28_, h⟩ := zaa h
 have h28_ := zah h28_
 try simp -dsimp -implicitDefEqProofs only [go_sem, simprocAttr] at h28_
 obtain ⟨_, h29_, h⟩ := zaa h
 have h29_ := zah h29_
 try simp -dsimp -implicitDefEqProofs only [go_sem, simprocAttr] at h29_
 rotate_left
 rcases zaw h with ⟨r32_, o31_, h⟩ | ⟨q29, o31_, h⟩
 obtain ⟨_, l30_, E⟩ := E.lp (zjg hg o31_)
 rotate_left
 obtain ⟨_, l33_, E⟩ := E.lp (zjg hg o31_)
 have E := E.and (zk5 )
 obtain ⟨y30, h34_, h⟩ := zaa h
 obtain ⟨_, h35_⟩ := zaA h34_
 have h35_ := zav h35_ zsz
 obtain ⟨_, h36_, h⟩ := zaa h
 have h36_ := zah h36_
 try simp -dsimp -implicitDefEqProofs only [go_sem, simprocAttr] at h36_
 obtain ⟨_, h37_, h⟩ := zaa h
 have h37_ := zah h37_
 try simp -dsimp -implicitDefEqProofs only [go_sem, simprocAttr] at h37_
 obtain ⟨_, h38_, h⟩ := zaa h
 have e39_ := zz3 (Sl.out q29.1) [59, 32] (zah h38_)
 obtain ⟨_, h40_, h⟩ := zaa h
 have h40_ := zah h40_
 try simp -dsimp -implicitDefEqProofs only [go_sem, simprocAttr] at h40_
 obtain ⟨_, h41_, h⟩ := zaa h
 have h41_ := zah h41_
 try simp -dsimp -implicitDefEqProofs only [go_sem, simprocAttr] at h41_
 have E := E.and (zk4 )
 obtain ⟨y36, h42_, h⟩ := zaa h
 obtain ⟨_, h43_⟩ := zaA h42_
 have h43_ := zav h43_ zsz
 obtain ⟨_, h44_, h⟩ := zaa h
 have h44_ := zah h44_
 try simp -dsimp -implicitDefEqProofs only [go_sem, simprocAttr] at h44_
 obtain ⟨_, h45_, h⟩ := zaa h
 have h45_ := zah h45_
 try simp -dsimp -implicitDefEqProofs only [go_sem, simprocAttr] at h45_
 obtain ⟨_, h46_, h⟩ := zaa h
 have E := E.and (zus a.bound (zah h46_))
 obtain ⟨_, h47_, h⟩ := zaa h
 have h47_ := zah h47_
 try simp -dsimp -implicitDefEqProofs only [go_sem, simprocAttr] at h47_
 obtain ⟨_, h48_, h⟩ := zaa h
 have h48_ := zah h48_
 try simp -dsimp -implicitDefEqProofs only [go_sem, simprocAttr] at h48_
 all_goals
  cases h
  refine E.s fun n x => ?_
  (try simp -dsimp -implicitDefEqProofs only [go_sem, *, simprocAttr] at e39_)
  (try simp -dsimp -implicitDefEqProofs only [go_sem, *, simprocAttr] at h40_)
  (try simp -dsimp -implicitDefEqProofs only [go_sem, *, simprocAttr] at h41_)
  (try simp -dsimp -implicitDefEqProofs only [go_sem, *, simprocAttr] at h44_)
  (try simp -dsimp -implicitDefEqProofs only [go_sem, *, simprocAttr] at h45_)
  (try simp -dsimp -implicitDefEqProofs only [go_sem, *, simprocAttr] at h47_)
  (try simp -dsimp -implicitDefEqProofs only [go_sem, *, simprocAttr] at h48_)
  first | (have := l30_; refine zt ?_; refine zaf (l30_.1 n YJ _ _ ?_ ?_ ?_ ?_ ?_ _ _ ?_); (iterate 5 exact zs); simp only [zdQ]; intro e m i0; (try simp -dsimp -implicitDefEqProofs only [go_sem, *, simprocAttr] at e39_); (try simp -dsimp -implicitDefEqProofs only [go_sem, *, simprocAttr] at h40_); (try simp -dsimp -implicitDefEqProofs only [go_sem, *, simprocAttr] at h41_); (try simp -dsimp -implicitDefEqProofs only [go_sem, *, simprocAttr] at h44_); (try simp -dsimp -implicitDefEqProofs only [go_sem, *, simprocAttr] at h45_); (try simp -dsimp -implicitDefEqProofs only [go_sem, *, simprocAttr] at h47_); (try simp -dsimp -implicitDefEqProofs only [go_sem, *, simprocAttr] at h48_); exact zs) | (have := l33_; refine zt ?_; refine zaf (l33_.1 n YJ _ _ ?_ ?_ ?_ ?_ ?_ _ _ ?_); (iterate 5 exact zs); simp only [zdQ]; intro e m i0 i1; obtain ⟨_, _, _⟩ := i0; rcases zsi i1 with ⟨_, _⟩ | ⟨_, _, _, _⟩ <;> ((try simp -dsimp -implicitDefEqProofs only [go_sem, *, simprocAttr] at e39_); (try simp -dsimp -implicitDefEqProofs only [go_sem, *, simprocAttr] at h40_); (try simp -dsimp -implicitDefEqProofs only [go_sem, *, simprocAttr] at h41_); (try simp -dsimp -implicitDefEqProofs only [go_sem, *, simprocAttr] at h44_); (try simp -dsimp -implicitDefEqProofs only [go_sem, *, simprocAttr] at h45_); (try simp -dsimp -implicitDefEqProofs only [go_sem, *, simprocAttr] at h47_); (try simp -dsimp -implicitDefEqProofs only [go_sem, *, simprocAttr] at h48_); (try simp -dsimp -implicitDefEqProofs only [go_sem, *, simprocAttr] at e39_); (try simp -dsimp -implicitDefEqProofs only [go_sem, *, simprocAttr] at h40_); (try simp -dsimp -implicitDefEqProofs only [go_sem, *, simprocAttr] at h41_); (try simp -dsimp -implicitDefEqProofs only [go_sem, *, simprocAttr] at h44_); (try simp -dsimp -implicitDefEqProofs only [go_sem, *, simprocAttr] at h45_); (try simp -dsimp -implicitDefEqProofs only [go_sem, *, simprocAttr] at h47_); (try simp -dsimp -implicitDefEqProofs only [go_sem, *, simprocAttr] at h48_); exact zs)) | (exact zs)
theorem zGx : ∀ s : Nat, s < big -> zIt s := by
 intro s
 induction s with
 | zero => intro _; exact ⟨fun _ h => absurd h YJ, fun _ h => absurd h YJ, fun _ h => absurd h YJ⟩
 | succ s ih =>
   intro hb
   have hg := ih YJ
   exact ⟨
    fun a h => zxL (sz := s) hg (ztT (kk := s + 1) (sz := s) YJ YJ YJ),
    fun a h => znZ (sz := s) hg (zmh (kk := s + 1) (sz := s) YJ YJ YJ),
    fun a h => zqS (sz := s) hg (zn4 (kk := s + 1) (sz := s) YJ YJ YJ)⟩
theorem zpQ (a : (Sl zam)) (h : (zdp a.l = true /\ zbB a.l /\ zak a.l < lim /\ 4 * zak a.l + 1 < big - 1)) : Ev cfg 50 [(dSl zaq a)] (.str (zcu a)) := (zGx (big - 1) (by unfold big; omega)).1 a h
attribute [go_sem] func40 f40 func69 f69
def zkE (c26 : Sl zam) (c27 c28 c30 c31 : Int) (c33 : zas) (K : YK) (R : YL) : Out (Int) (Int × Int) -> Prop
 | .ret r => ∀ (e : Env) (m : Mem), e 6 = (.int .i64 r) -> K .ret ⟨e, m⟩ = R
 | .done q => ∀ (e : Env) (m : Mem), e 0 = (dSl zaq c26) -> e 1 = (.int .i64 c27) -> e 2 = (.int .i64 c28) -> e 7 = (.int .i64 q.1) -> e 8 = (.int .i64 c30) -> e 9 = (.int .i64 c31) -> K (.exit 6) ⟨e, m⟩ = R
noncomputable def zBh : Code := za4 f69 [1, 1, 1, 0, 1, 0, 0, 1, 0, 0, 1, 1, 0, 0, 1, 0, 0, 1, 1, 1, 1, 0, 0]
abbrev zLc (sz : Nat) : Prop := (∀ (a : (Sl zam)) (b : Int) (c : Int), (zak a.l < sz /\ zak a.l < lim /\ 0 <= b /\ b <= 4294967296 /\ 0 <= c /\ c <= 4294967296) -> Ev cfg 69 [(dSl zaq a), (.int .i64 b), (.int .i64 c)] (.int .i64 (zC0 a b c)))
theorem zsG {c26 : Sl zam} {c27 c28 c30 c31 : Int} {c33 : zas} {sz : Nat} (hg : zLc sz) {kk : Nat} : ∀ {k : Nat} {s29 s32 : Int} {out : Out (Int) (Int × Int)}, zfM c26 c27 c28 c30 c31 c33 sz kk k s29 s32 = some out -> ∃ N, ∀ n, N <= n -> ∀ k, N <= k -> ∀ (e : Env) (m : Mem), e 0 = (dSl zaq c26) -> e 1 = (.int .i64 c27) -> e 2 = (.int .i64 c28) -> e 7 = (.int .i64 s29) -> e 8 = (.int .i64 c30) -> e 9 = (.int .i64 c31) -> zb9 (e 10) m 10 10 (zbQ c33) -> e 12 = (.int .i64 s32) -> ∀ (K : YK) (R : YL), zkE c26 c27 c28 c30 c31 c33 K R out -> zbU (zbt cfg (dfn cfg n) n zBh) K k ⟨e, m⟩ = R := by
 have hW := hg
 intro k
 induction k with
 | zero => intro s29 s32 out h; cases h
 | succ k ih => ?_
 intro s29 s32 out h
 have ih := fun x0 x1 {out} => @ih x0 x1 out
 unfold zfM at h
 have E := evT
 rcases zac h with ⟨h1_, h⟩ | ⟨h1_, h⟩
 obtain ⟨b2_, b3_⟩ := zbG h1_
 obtain ⟨y34, h4_, h⟩ := zaa h
 obtain ⟨_, h5_⟩ := zaA h4_
 have h5_ := zav h5_ zao
 obtain ⟨_, h6_, h⟩ := zaa h
 have E := E.and (hW y34.ann (IntKind.wrap .i64 (c27 - s29)) (IntKind.wrap .i64 (c28 - 1)) (zah h6_))
 rotate_left
 rcases zbj h1_ with b7_ | ⟨b7_, b8_⟩
 all_goals
  first | (cases h; refine E.l fun n k x => ?_) | refine E.c (ih _ _ h) fun n k x I => ?_
  intro e m i0 i1 i2 i3 i4 i5 i6 i7 K R hK
  obtain ⟨_, _, _⟩ := i6
  rw [zap]
  (conv => lhs; arg 4; whnf)
  first | (refine zt ?_; refine zaf (I.1 _ _ ?_ ?_ ?_ ?_ ?_ ?_ ?_ ?_ _ _ hK); (iterate 8 exact zs)) | (refine zt ?_; simp only [zkE] at hK; refine hK _ _ ?_ ?_ ?_ ?_ ?_ ?_; (iterate 6 exact zs))
def zkF (c15 : Sl zam) (c16 c17 c19 c20 : Int) (c22 : zas) (K : YK) (R : YL) : Out (Int) (Int × Int) -> Prop
 | .ret r => ∀ (e : Env) (m : Mem), e 6 = (.int .i64 r) -> K .ret ⟨e, m⟩ = R
 | .done q => ∀ (e : Env) (m : Mem), e 0 = (dSl zaq c15) -> e 1 = (.int .i64 c16) -> e 2 = (.int .i64 c17) -> e 7 = (.int .i64 q.1) -> e 8 = (.int .i64 c19) -> e 9 = (.int .i64 c20) -> zb9 (e 10) m 10 10 (zbQ c22) -> K (.exit 4) ⟨e, m⟩ = R
noncomputable def zBi : Code := za4 f69 [1, 1, 1, 0, 1, 0, 0, 1, 0, 0, 1, 1, 0, 0, 1, 0, 0, 1, 1, 0, 1, 0, 0]
theorem zsH {c15 : Sl zam} {c16 c17 c19 c20 : Int} {c22 : zas} {sz : Nat} (hg : zLc sz) {kk : Nat} : ∀ {k : Nat} {s18 s21 : Int} {out : Out (Int) (Int × Int)}, zfN c15 c16 c17 c19 c20 c22 sz kk k s18 s21 = some out -> ∃ N, ∀ n, N <= n -> ∀ k, N <= k -> ∀ (e : Env) (m : Mem), e 0 = (dSl zaq c15) -> e 1 = (.int .i64 c16) -> e 2 = (.int .i64 c17) -> e 7 = (.int .i64 s18) -> e 8 = (.int .i64 c19) -> e 9 = (.int .i64 c20) -> zb9 (e 10) m 10 10 (zbQ c22) -> e 11 = (.int .i64 s21) -> ∀ (K : YK) (R : YL), zkF c15 c16 c17 c19 c20 c22 K R out -> zbU (zbt cfg (dfn cfg n) n zBi) K k ⟨e, m⟩ = R := by
 have hW := hg
 intro k
 induction k with
 | zero => intro s18 s21 out h; cases h
 | succ k ih => ?_
 intro s18 s21 out h
 have ih := fun x0 x1 {out} => @ih x0 x1 out
 unfold zfN at h
 have E := evT
 rcases zac h with ⟨h9_, h⟩ | ⟨h9_, h⟩
 obtain ⟨b10_, b11_⟩ := zbG h9_
 obtain ⟨y23, h12_, h⟩ := zaa h
 obtain ⟨_, h13_⟩ := zaA h12_
 have h13_ := zav h13_ (cSl zaq)
 obtain ⟨_, h14_, h⟩ := zaa h
 have E := E.and (hW y23 (IntKind.wrap .i64 (c16 - s18)) (IntKind.wrap .i64 (c17 - 1)) (zah h14_))
 rotate_left
 rcases zbj h9_ with b15_ | ⟨b15_, b16_⟩
 all_goals
  first | (cases h; refine E.l fun n k x => ?_) | refine E.c (ih _ _ h) fun n k x I => ?_
  intro e m i0 i1 i2 i3 i4 i5 i6 i7 K R hK
  obtain ⟨_, _, _⟩ := i6
  rw [zap]
  (conv => lhs; arg 4; whnf)
  first | (refine zt ?_; refine zaf (I.1 _ _ ?_ ?_ ?_ ?_ ?_ ?_ ?_ ?_ _ _ hK); (iterate 8 exact zs)) | (refine zt ?_; simp only [zkF] at hK; refine hK _ _ ?_ ?_ ?_ ?_ ?_ ?_ ?_; (iterate 7 exact zs))
def zhg (c7 : Sl zam) (c8 c9 c11 : Int) (K : YK) (R : YL) : Out (Int) (Int × Int) -> Prop
 | .ret r => ∀ (e : Env) (m : Mem), e 6 = (.int .i64 r) -> K .ret ⟨e, m⟩ = R
 | .done q => ∀ (e : Env) (m : Mem), e 0 = (dSl zaq c7) -> e 1 = (.int .i64 c8) -> e 2 = (.int .i64 c9) -> e 7 = (.int .i64 q.1) -> e 8 = (.int .i64 c11) -> K (.exit 2) ⟨e, m⟩ = R
noncomputable def zBj : Code := za4 f69 [1, 1, 1, 0, 1, 0, 0, 1, 0, 0, 1, 1, 0, 0]
theorem zsI {c7 : Sl zam} {c8 c9 c11 : Int} {sz : Nat} (hg : zLc sz) {kk : Nat} : ∀ {k : Nat} {s10 s12 : Int} {out : Out (Int) (Int × Int)}, zfO c7 c8 c9 c11 sz kk k s10 s12 = some out -> ∃ N, ∀ n, N <= n -> ∀ k, N <= k -> ∀ (e : Env) (m : Mem), e 0 = (dSl zaq c7) -> e 1 = (.int .i64 c8) -> e 2 = (.int .i64 c9) -> e 7 = (.int .i64 s10) -> e 8 = (.int .i64 c11) -> e 9 = (.int .i64 s12) -> ∀ (K : YK) (R : YL), zhg c7 c8 c9 c11 K R out -> zbU (zbt cfg (dfn cfg n) n zBj) K k ⟨e, m⟩ = R := by
 intro k
 induction k with
 | zero => intro s10 s12 out h; cases h
 | succ k ih => ?_
 intro s10 s12 out h
 have ih := fun x0 x1 {out} => @ih x0 x1 out
 unfold zfO at h
 have E := evT
 obtain ⟨y13, h17_, h⟩ := zaa h
 obtain ⟨_, h18_⟩ := zaA h17_
 have h18_ := zav h18_ zaq
 rcases zac h with ⟨h19_, h⟩ | ⟨h19_, h⟩
 obtain ⟨b20_, b21_⟩ := zbG h19_
 obtain ⟨y14, h22_, h⟩ := zaa h
 obtain ⟨_, h23_⟩ := zaA h22_
 have h23_ := zav h23_ zaz
 rcases zaw h with ⟨r26_, o25_, h⟩ | ⟨q25, o25_, h⟩
 obtain ⟨_, l24_, E⟩ := E.lp (zsH hg o25_)
 rotate_left
 obtain ⟨_, l27_, E⟩ := E.lp (zsH hg o25_)
 rcases zaw h with ⟨r30_, o29_, h⟩ | ⟨q36, o29_, h⟩
 obtain ⟨_, l28_, E⟩ := E.lp (zsG hg o29_)
 rotate_left
 obtain ⟨_, l31_, E⟩ := E.lp (zsG hg o29_)
 rotate_left
 rcases zbj h19_ with b32_ | ⟨b32_, b33_⟩
 all_goals
  first | (cases h; refine E.l fun n k x => ?_) | refine E.c (ih _ _ h) fun n k x I => ?_
  intro e m i0 i1 i2 i3 i4 i5 K R hK
  rw [zap]
  (conv => lhs; arg 4; whnf)
  first | (have := l24_; refine zt ?_; refine zaf (l24_.1 n YJ _ _ ?_ ?_ ?_ ?_ ?_ ?_ ?_ ?_ _ _ ?_); (iterate 8 exact zs); simp only [zkF]; intro e m i0; (try refine zt ?_); simp only [zhg] at hK; refine hK _ _ ?_; exact zs) | (have := l27_; refine zt ?_; refine zaf (l27_.1 n YJ _ _ ?_ ?_ ?_ ?_ ?_ ?_ ?_ ?_ _ _ ?_); (iterate 8 exact zs); simp only [zkF]; intro e m i0 i1 i2 i3 i4 i5 i6; obtain ⟨_, _, _⟩ := i6; (first | (have := l28_; (try refine zt ?_); refine zaf (l28_.1 n YJ _ _ ?_ ?_ ?_ ?_ ?_ ?_ ?_ ?_ _ _ ?_); (iterate 8 exact zs); simp only [zkE]; intro e m i0; (try refine zt ?_); simp only [zhg] at hK; refine hK _ _ ?_; exact zs) | (have := l31_; (try refine zt ?_); refine zaf (l31_.1 n YJ _ _ ?_ ?_ ?_ ?_ ?_ ?_ ?_ ?_ _ _ ?_); (iterate 8 exact zs); simp only [zkE]; intro e m i0 i1 i2 i3 i4 i5; (try refine zt ?_); refine zaf (I.1 _ _ ?_ ?_ ?_ ?_ ?_ ?_ _ _ hK); (iterate 6 exact zs)))) | ((try refine zt ?_); simp only [zhg] at hK; refine hK _ _ ?_ ?_ ?_ ?_ ?_; (iterate 5 exact zs))
def ziB (c1 : Sl zam) (c2 c3 : Int) (K : YK) (R : YL) : Out (Int) (Int × Int) -> Prop
 | .ret r => ∀ (e : Env) (m : Mem), e 6 = (.int .i64 r) -> K .ret ⟨e, m⟩ = R
 | .done q => ∀ (e : Env) (m : Mem), e 7 = (.int .i64 q.1) -> K (.exit 0) ⟨e, m⟩ = R
noncomputable def zBk : Code := za4 f69 [1, 1, 1, 0, 1, 0, 0]
theorem zsJ {c1 : Sl zam} {c2 c3 : Int} {sz : Nat} (hg : zLc sz) {kk : Nat} : ∀ {k : Nat} {s4 s5 : Int} {out : Out (Int) (Int × Int)}, zgM c1 c2 c3 sz kk k s4 s5 = some out -> ∃ N, ∀ n, N <= n -> ∀ k, N <= k -> ∀ (e : Env) (m : Mem), e 0 = (dSl zaq c1) -> e 1 = (.int .i64 c2) -> e 2 = (.int .i64 c3) -> e 7 = (.int .i64 s4) -> e 8 = (.int .i64 s5) -> ∀ (K : YK) (R : YL), ziB c1 c2 c3 K R out -> zbU (zbt cfg (dfn cfg n) n zBk) K k ⟨e, m⟩ = R := by
 intro k
 induction k with
 | zero => intro s4 s5 out h; cases h
 | succ k ih => ?_
 intro s4 s5 out h
 have ih := fun x0 x1 {out} => @ih x0 x1 out
 unfold zgM at h
 have E := evT
 rcases zac h with ⟨h34_, h⟩ | ⟨h34_, h⟩
 obtain ⟨b35_, b36_⟩ := zbG h34_
 obtain ⟨y6, h37_, h⟩ := zaa h
 obtain ⟨_, h38_⟩ := zaA h37_
 have h38_ := zav h38_ zaq
 rcases zaw h with ⟨r41_, o40_, h⟩ | ⟨q37, o40_, h⟩
 obtain ⟨_, l39_, E⟩ := E.lp (zsI hg o40_)
 rotate_left
 obtain ⟨_, l42_, E⟩ := E.lp (zsI hg o40_)
 rotate_left
 rcases zbj h34_ with b43_ | ⟨b43_, b44_⟩
 all_goals
  first | (cases h; refine E.l fun n k x => ?_) | refine E.c (ih _ _ h) fun n k x I => ?_
  intro e m i0 i1 i2 i3 i4 K R hK
  rw [zap]
  (conv => lhs; arg 4; whnf)
  first | (have := l39_; refine zt ?_; refine zaf (l39_.1 n YJ _ _ ?_ ?_ ?_ ?_ ?_ ?_ _ _ ?_); (iterate 6 exact zs); simp only [zhg]; intro e m i0; (try refine zt ?_); simp only [ziB] at hK; refine hK _ _ ?_; exact zs) | (have := l42_; refine zt ?_; refine zaf (l42_.1 n YJ _ _ ?_ ?_ ?_ ?_ ?_ ?_ _ _ ?_); (iterate 6 exact zs); simp only [zhg]; intro e m i0 i1 i2 i3 i4; (try refine zt ?_); refine zaf (I.1 _ _ ?_ ?_ ?_ ?_ ?_ _ _ hK); (iterate 5 exact zs)) | ((try refine zt ?_); simp only [ziB] at hK; refine hK _ _ ?_; exact zs)
theorem zGC {kk : Nat} {a : (Sl zam)} {b c : Int} {sz : Nat} (hg : zLc sz) {r : Int} (h : zoz kk sz a b c = some r) : Ev cfg 69 [(dSl zaq a), (.int .i64 b), (.int .i64 c)] (.int .i64 r) := by
 unfold zoz at h
 have E := evT
 rcases zac h with ⟨h45_, h⟩ | ⟨h45_, h⟩
 rotate_left
 rcases zaw h with ⟨r48_, o47_, h⟩ | ⟨q38, o47_, h⟩
 obtain ⟨_, l46_, E⟩ := E.lp (zsJ hg o47_)
 rotate_left
 obtain ⟨_, l49_, E⟩ := E.lp (zsJ hg o47_)
 all_goals
  cases h
  refine E.s fun n x => ?_
  first | (have := l46_; refine zt ?_; refine zaf (l46_.1 n YJ _ _ ?_ ?_ ?_ ?_ ?_ _ _ ?_); (iterate 5 exact zs); simp only [ziB]; intro e m i0; exact zs) | (have := l49_; refine zt ?_; refine zaf (l49_.1 n YJ _ _ ?_ ?_ ?_ ?_ ?_ _ _ ?_); (iterate 5 exact zs); simp only [ziB]; intro e m i0; exact zs) | (exact zs)
theorem zBt : ∀ s : Nat, s < big -> zLc s := by
 intro s
 induction s with
 | zero => intro _; exact fun _ _ _ h => absurd h YJ
 | succ s ih =>
   intro hb
   have hg := ih YJ
   exact
    fun a b c h => zGC (sz := s) hg (zA6 (kk := s + 1) (sz := s) YJ YJ YJ)
theorem zGN (a : (Sl zam)) (b : Int) (c : Int) (h : (zak a.l < big - 1 /\ zak a.l < lim /\ 0 <= b /\ b <= 4294967296 /\ 0 <= c /\ c <= 4294967296)) : Ev cfg 69 [(dSl zaq a), (.int .i64 b), (.int .i64 c)] (.int .i64 (zC0 a b c)) := (zBt (big - 1) (by unfold big; omega)) a b c h
def zlY (c1 : Int) (c2 : Sl (Sl zam)) (K : YK) (R : YL) : Out (Bool) (Int) -> Prop
 | .ret r => ∀ (e : Env) (m : Mem), e 4 = (.bool r) -> K .ret ⟨e, m⟩ = R
 | .done q => ∀ (e : Env) (m : Mem), K (.exit 0) ⟨e, m⟩ = R
noncomputable def zGT : Code := za4 f40 [1, 0, 1, 0, 0]
theorem zyE {c1 : Int} {c2 : Sl (Sl zam)} {kk : Nat} : ∀ {k : Nat} {s3 : Int} {out : Out (Bool) (Int)}, zjV c1 c2 kk k s3 = some out -> ∃ N, ∀ n, N <= n -> ∀ k, N <= k -> ∀ (e : Env) (m : Mem), e 0 = (.int .i64 c1) -> e 1 = (dSl (cSl zaq) c2) -> e 5 = (.int .i64 s3) -> ∀ (K : YK) (R : YL), zlY c1 c2 K R out -> zbU (zbt cfg (dfn cfg n) n zGT) K k ⟨e, m⟩ = R := by
 intro k
 induction k with
 | zero => intro s3 out h; cases h
 | succ k ih => ?_
 intro s3 out h
 have ih := fun x0 {out} => @ih x0 out
 unfold zjV at h
 have E := evT
 rcases zac h with ⟨h1_, h⟩ | ⟨h1_, h⟩
 obtain ⟨y4, h2_, h⟩ := zaa h
 obtain ⟨_, h3_⟩ := zaA h2_
 have h3_ := zav h3_ (cSl zaq)
 obtain ⟨_, h4_, h⟩ := zaa h
 have E := E.and (zGN y4 c1 12 (zah h4_))
 rcases zac h with ⟨h5_, h⟩ | ⟨h5_, h⟩
 all_goals
  first | (cases h; refine E.l fun n k x => ?_) | refine E.c (ih _ h) fun n k x I => ?_
  intro e m i0 i1 i2 K R hK
  rw [zap]
  (conv => lhs; arg 4; whnf)
  first | (refine zt ?_; simp only [zlY] at hK; refine hK _ _ ?_; exact zs) | (refine zt ?_; refine zaf (I.1 _ _ ?_ ?_ ?_ _ _ hK); (iterate 3 exact zs)) | (refine zt ?_; simp only [zlY] at hK; refine hK _ _)
theorem zNR {kk : Nat} {a : Int} {b : (Sl (Sl zam))} {r : Bool} (h : zwH kk a b = some r) : Ev cfg 40 [(.int .i64 a), (dSl (cSl zaq) b)] (.bool r) := by
 unfold zwH at h
 have E := evT
 rcases zaw h with ⟨r8_, o7_, h⟩ | ⟨q6, o7_, h⟩
 obtain ⟨_, l6_, E⟩ := E.lp (zyE o7_)
 rotate_left
 obtain ⟨_, l9_, E⟩ := E.lp (zyE o7_)
 all_goals
  cases h
  refine E.s fun n x => ?_
  first | (have := l6_; refine zt ?_; refine zaf (l6_.1 n YJ _ _ ?_ ?_ ?_ _ _ ?_); (iterate 3 exact zs); simp only [zlY]; intro e m i0; exact zs) | (have := l9_; refine zt ?_; refine zaf (l9_.1 n YJ _ _ ?_ ?_ ?_ _ _ ?_); (iterate 3 exact zs); simp only [zlY]; intro e m; exact zs)
theorem zNX (a : Int) (b : Sl (Sl zam)) (h : 0 <= a /\ a <= 4294967296 /\ zcw b.l < lim) : Ev cfg 40 [(.int .i64 a), (dSl (cSl zaq) b)] (.bool (zTF a b)) := zNR (zGM (kk := big) h (by have := zd6 b.l; rw [zgR] at h; unfold big; omega))
end Go.Proofs.Tryz
