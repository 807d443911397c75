/- AnnotationText: for every annotation and string that hold together at most 1048576 values and letters, the law returns true. Condition: that bound (the Upto form). -/
import Derived.Test.YtppkbmfdaojgdaaGreatDoorT3
import Derived.Test.YtppkbmfdaojgdaaGreatDoorT8
set_option linter.all false
namespace Go.Proofs.Tryz
open Go.Ev
def ztR : Nat := 211
def zNt : List (Nat × (List D → Option D)) := [(225, zoc), (166, zkf), (174, zOp), (227, zHf), (145, zob ztR), (198, zHm ztR), (113, ztP), (89, zHi), (48, zEK), (46, zid), (4, zxH)]
def zCO (f : Nat) : Option (List D → Option D) := (zNt.find? fun x => Nat.beq x.1 f).map (·.2)
def zRx : List Nat := [81, 82, 84, 123, 125, 126, 127, 149, 150, 151, 152, 153, 154, 155, 156, 180, 183, 184, 185, 201, 202, 215, 216, 228, 239]
def zKv (f : Nat) : Bool := zRx.any fun x => Nat.beq x f
noncomputable def cfg : Cfg := { P := prog, prim := zCO, byRef := zKv, fine := fun f => decide (f < 250) }
@[go_sem] theorem zYa : cfg.P = prog := rfl
@[go_sem] theorem zTv (f) : cfg.fine f = decide (f < 250) := rfl
@[go_sem] theorem zR3 : cfg.prim 3 = none := rfl
@[go_sem] theorem zR2 : cfg.prim 4 = some (zxH) := rfl
@[go_sem] theorem zR1 : cfg.prim 5 = none := rfl
@[go_sem] theorem zR0 : cfg.prim 6 = none := rfl
@[go_sem] theorem zRZ : cfg.prim 7 = none := rfl
@[go_sem] theorem zRY : cfg.prim 8 = none := rfl
@[go_sem] theorem zRX : cfg.prim 9 = none := rfl
@[go_sem] theorem zRw : cfg.prim 10 = none := rfl
@[go_sem] theorem zRv : cfg.prim 18 = none := rfl
@[go_sem] theorem zRu : cfg.prim 19 = none := rfl
@[go_sem] theorem zRt : cfg.prim 20 = none := rfl
@[go_sem] theorem zRs : cfg.prim 21 = none := rfl
@[go_sem] theorem zRr : cfg.prim 22 = none := rfl
@[go_sem] theorem zRq : cfg.prim 23 = none := rfl
@[go_sem] theorem zRp : cfg.prim 24 = none := rfl
@[go_sem] theorem zRo : cfg.prim 25 = none := rfl
@[go_sem] theorem zRn : cfg.prim 26 = none := rfl
@[go_sem] theorem zRm : cfg.prim 27 = none := rfl
@[go_sem] theorem zRl : cfg.prim 28 = none := rfl
@[go_sem] theorem zRk : cfg.prim 29 = none := rfl
@[go_sem] theorem zRj : cfg.prim 43 = none := rfl
@[go_sem] theorem zRi : cfg.prim 44 = none := rfl
@[go_sem] theorem zRh : cfg.prim 46 = some (zid) := rfl
@[go_sem] theorem zRg : cfg.prim 47 = none := rfl
@[go_sem] theorem zRf : cfg.prim 48 = some (zEK) := rfl
@[go_sem] theorem zRe : cfg.prim 49 = none := rfl
@[go_sem] theorem zRd : cfg.prim 50 = none := rfl
@[go_sem] theorem zRc : cfg.prim 51 = none := rfl
@[go_sem] theorem zRb : cfg.prim 52 = none := rfl
@[go_sem] theorem zRa : cfg.prim 53 = none := rfl
@[go_sem] theorem zQ9 : cfg.prim 54 = none := rfl
@[go_sem] theorem zQ8 : cfg.prim 55 = none := rfl
@[go_sem] theorem zQ7 : cfg.prim 56 = none := rfl
@[go_sem] theorem zQ6 : cfg.prim 57 = none := rfl
@[go_sem] theorem zQ5 : cfg.prim 58 = none := rfl
@[go_sem] theorem zQ4 : cfg.prim 59 = none := rfl
@[go_sem] theorem zQ3 : cfg.prim 60 = none := rfl
@[go_sem] theorem zQ2 : cfg.prim 61 = none := rfl
@[go_sem] theorem zQ1 : cfg.prim 62 = none := rfl
@[go_sem] theorem zQ0 : cfg.prim 63 = none := rfl
@[go_sem] theorem zQZ : cfg.prim 64 = none := rfl
@[go_sem] theorem zQY : cfg.prim 65 = none := rfl
@[go_sem] theorem zQX : cfg.prim 66 = none := rfl
@[go_sem] theorem zQW : cfg.prim 67 = none := rfl
@[go_sem] theorem zQV : cfg.prim 68 = none := rfl
@[go_sem] theorem zQU : cfg.prim 69 = none := rfl
@[go_sem] theorem zQT : cfg.prim 70 = none := rfl
@[go_sem] theorem zQS : cfg.prim 71 = none := rfl
@[go_sem] theorem zQR : cfg.prim 72 = none := rfl
@[go_sem] theorem zQQ : cfg.prim 73 = none := rfl
@[go_sem] theorem zQP : cfg.prim 74 = none := rfl
@[go_sem] theorem zQO : cfg.prim 75 = none := rfl
@[go_sem] theorem zQN : cfg.prim 76 = none := rfl
@[go_sem] theorem zQM : cfg.prim 77 = none := rfl
@[go_sem] theorem zQL : cfg.prim 78 = none := rfl
@[go_sem] theorem zQK : cfg.prim 79 = none := rfl
@[go_sem] theorem zQJ : cfg.prim 80 = none := rfl
@[go_sem] theorem zQI : cfg.prim 88 = none := rfl
@[go_sem] theorem zQH : cfg.prim 89 = some (zHi) := rfl
@[go_sem] theorem zQG : cfg.prim 93 = none := rfl
@[go_sem] theorem zQF : cfg.prim 94 = none := rfl
@[go_sem] theorem zQE : cfg.prim 95 = none := rfl
@[go_sem] theorem zQD : cfg.prim 96 = none := rfl
@[go_sem] theorem zQC : cfg.prim 97 = none := rfl
@[go_sem] theorem zQB : cfg.prim 98 = none := rfl
@[go_sem] theorem zQA : cfg.prim 99 = none := rfl
@[go_sem] theorem zPz : cfg.prim 100 = none := rfl
@[go_sem] theorem zPy : cfg.prim 101 = none := rfl
@[go_sem] theorem zPx : cfg.prim 102 = none := rfl
@[go_sem] theorem zPw : cfg.prim 103 = none := rfl
@[go_sem] theorem zPv : cfg.prim 104 = none := rfl
@[go_sem] theorem zPu : cfg.prim 105 = none := rfl
@[go_sem] theorem zPt : cfg.prim 106 = none := rfl
@[go_sem] theorem zPs : cfg.prim 107 = none := rfl
@[go_sem] theorem zPr : cfg.prim 108 = none := rfl
@[go_sem] theorem zPq : cfg.prim 109 = none := rfl
@[go_sem] theorem zPp : cfg.prim 110 = none := rfl
@[go_sem] theorem zPo : cfg.prim 111 = none := rfl
@[go_sem] theorem zPn : cfg.prim 112 = none := rfl
@[go_sem] theorem zPm : cfg.prim 113 = some (ztP) := rfl
@[go_sem] theorem zPl : cfg.prim 114 = none := rfl
@[go_sem] theorem zPk : cfg.prim 115 = none := rfl
@[go_sem] theorem zPj : cfg.prim 116 = none := rfl
@[go_sem] theorem zPi : cfg.prim 117 = none := rfl
@[go_sem] theorem zPh : cfg.prim 118 = none := rfl
@[go_sem] theorem zPg : cfg.prim 119 = none := rfl
@[go_sem] theorem zPf : cfg.prim 120 = none := rfl
@[go_sem] theorem zPe : cfg.prim 121 = none := rfl
@[go_sem] theorem zPd : cfg.prim 122 = none := rfl
@[go_sem] theorem zPc : cfg.prim 134 = none := rfl
@[go_sem] theorem zPb : cfg.prim 135 = none := rfl
@[go_sem] theorem zPa : cfg.prim 136 = none := rfl
@[go_sem] theorem zO9 : cfg.prim 137 = none := rfl
@[go_sem] theorem zO8 : cfg.prim 141 = none := rfl
@[go_sem] theorem zO7 : cfg.prim 142 = none := rfl
@[go_sem] theorem zO6 : cfg.prim 144 = none := rfl
@[go_sem] theorem zO5 : cfg.prim 145 = some (zob ztR) := rfl
@[go_sem] theorem zO4 : cfg.prim 146 = none := rfl
@[go_sem] theorem zO3 : cfg.prim 147 = none := rfl
@[go_sem] theorem zO2 : cfg.prim 148 = none := rfl
@[go_sem] theorem zO1 : cfg.prim 166 = some (zkf) := rfl
@[go_sem] theorem zO0 : cfg.prim 170 = none := rfl
@[go_sem] theorem zOZ : cfg.prim 173 = none := rfl
@[go_sem] theorem zOY : cfg.prim 174 = some (zOp) := rfl
@[go_sem] theorem zOX : cfg.prim 175 = none := rfl
@[go_sem] theorem zOW : cfg.prim 176 = none := rfl
@[go_sem] theorem zOV : cfg.prim 177 = none := rfl
@[go_sem] theorem zOU : cfg.prim 178 = none := rfl
@[go_sem] theorem zOT : cfg.prim 179 = none := rfl
@[go_sem] theorem zOS : cfg.prim 195 = none := rfl
@[go_sem] theorem zOR : cfg.prim 196 = none := rfl
@[go_sem] theorem zOQ : cfg.prim 197 = none := rfl
@[go_sem] theorem zOP : cfg.prim 198 = some (zHm ztR) := rfl
@[go_sem] theorem zOO : cfg.prim 199 = none := rfl
@[go_sem] theorem zON : cfg.prim 200 = none := rfl
@[go_sem] theorem zOM : cfg.prim 211 = none := rfl
@[go_sem] theorem zOL : cfg.prim 213 = none := rfl
@[go_sem] theorem zOK : cfg.prim 214 = none := rfl
@[go_sem] theorem zOJ : cfg.prim 224 = none := rfl
@[go_sem] theorem zOI : cfg.prim 225 = some (zoc) := rfl
@[go_sem] theorem zOH : cfg.prim 226 = none := rfl
@[go_sem] theorem zOG : cfg.prim 227 = some (zHf) := rfl
@[go_sem] theorem zOF : cfg.prim 231 = none := rfl
@[go_sem] theorem zU9 : cfg.byRef 3 = false := rfl
@[go_sem] theorem zU8 : cfg.byRef 4 = false := rfl
@[go_sem] theorem zU7 : cfg.byRef 5 = false := rfl
@[go_sem] theorem zU6 : cfg.byRef 6 = false := rfl
@[go_sem] theorem zU5 : cfg.byRef 7 = false := rfl
@[go_sem] theorem zU4 : cfg.byRef 8 = false := rfl
@[go_sem] theorem zU3 : cfg.byRef 9 = false := rfl
@[go_sem] theorem zUs : cfg.byRef 10 = false := rfl
@[go_sem] theorem zUr : cfg.byRef 18 = false := rfl
@[go_sem] theorem zUq : cfg.byRef 19 = false := rfl
@[go_sem] theorem zUp : cfg.byRef 20 = false := rfl
@[go_sem] theorem zUo : cfg.byRef 21 = false := rfl
@[go_sem] theorem zUn : cfg.byRef 22 = false := rfl
@[go_sem] theorem zUm : cfg.byRef 23 = false := rfl
@[go_sem] theorem zUl : cfg.byRef 24 = false := rfl
@[go_sem] theorem zUk : cfg.byRef 25 = false := rfl
@[go_sem] theorem zUj : cfg.byRef 26 = false := rfl
@[go_sem] theorem zUi : cfg.byRef 27 = false := rfl
@[go_sem] theorem zUh : cfg.byRef 28 = false := rfl
@[go_sem] theorem zUg : cfg.byRef 29 = false := rfl
@[go_sem] theorem zUf : cfg.byRef 43 = false := rfl
@[go_sem] theorem zUe : cfg.byRef 44 = false := rfl
@[go_sem] theorem zUd : cfg.byRef 46 = false := rfl
@[go_sem] theorem zUc : cfg.byRef 47 = false := rfl
@[go_sem] theorem zUb : cfg.byRef 48 = false := rfl
@[go_sem] theorem zUa : cfg.byRef 49 = false := rfl
@[go_sem] theorem zT9 : cfg.byRef 50 = false := rfl
@[go_sem] theorem zT8 : cfg.byRef 51 = false := rfl
@[go_sem] theorem zT7 : cfg.byRef 52 = false := rfl
@[go_sem] theorem zT6 : cfg.byRef 53 = false := rfl
@[go_sem] theorem zT5 : cfg.byRef 54 = false := rfl
@[go_sem] theorem zT4 : cfg.byRef 55 = false := rfl
@[go_sem] theorem zT3 : cfg.byRef 56 = false := rfl
@[go_sem] theorem zT2 : cfg.byRef 57 = false := rfl
@[go_sem] theorem zT1 : cfg.byRef 58 = false := rfl
@[go_sem] theorem zT0 : cfg.byRef 59 = false := rfl
@[go_sem] theorem zTZ : cfg.byRef 60 = false := rfl
@[go_sem] theorem zTY : cfg.byRef 61 = false := rfl
@[go_sem] theorem zTX : cfg.byRef 62 = false := rfl
@[go_sem] theorem zTW : cfg.byRef 63 = false := rfl
@[go_sem] theorem zTV : cfg.byRef 64 = false := rfl
@[go_sem] theorem zTU : cfg.byRef 65 = false := rfl
@[go_sem] theorem zTT : cfg.byRef 66 = false := rfl
@[go_sem] theorem zTS : cfg.byRef 67 = false := rfl
@[go_sem] theorem zTR : cfg.byRef 68 = false := rfl
@[go_sem] theorem zTQ : cfg.byRef 69 = false := rfl
@[go_sem] theorem zTP : cfg.byRef 70 = false := rfl
@[go_sem] theorem zTO : cfg.byRef 71 = false := rfl
@[go_sem] theorem zTN : cfg.byRef 72 = false := rfl
@[go_sem] theorem zTM : cfg.byRef 73 = false := rfl
@[go_sem] theorem zTL : cfg.byRef 74 = false := rfl
@[go_sem] theorem zTK : cfg.byRef 75 = false := rfl
@[go_sem] theorem zTJ : cfg.byRef 76 = false := rfl
@[go_sem] theorem zTI : cfg.byRef 77 = false := rfl
@[go_sem] theorem zTH : cfg.byRef 78 = false := rfl
@[go_sem] theorem zTG : cfg.byRef 79 = false := rfl
@[go_sem] theorem zTF : cfg.byRef 80 = false := rfl
@[go_sem] theorem zTE : cfg.byRef 88 = false := rfl
@[go_sem] theorem zTD : cfg.byRef 89 = false := rfl
@[go_sem] theorem zTC : cfg.byRef 93 = false := rfl
@[go_sem] theorem zTB : cfg.byRef 94 = false := rfl
@[go_sem] theorem zTA : cfg.byRef 95 = false := rfl
@[go_sem] theorem zTz : cfg.byRef 96 = false := rfl
@[go_sem] theorem zTy : cfg.byRef 97 = false := rfl
@[go_sem] theorem zTx : cfg.byRef 98 = false := rfl
@[go_sem] theorem zTw : cfg.byRef 99 = false := rfl
@[go_sem] theorem zSY : cfg.byRef 100 = false := rfl
@[go_sem] theorem zSX : cfg.byRef 101 = false := rfl
@[go_sem] theorem zSW : cfg.byRef 102 = false := rfl
@[go_sem] theorem zSV : cfg.byRef 103 = false := rfl
@[go_sem] theorem zSU : cfg.byRef 104 = false := rfl
@[go_sem] theorem zST : cfg.byRef 105 = false := rfl
@[go_sem] theorem zSS : cfg.byRef 106 = false := rfl
@[go_sem] theorem zSR : cfg.byRef 107 = false := rfl
@[go_sem] theorem zSQ : cfg.byRef 108 = false := rfl
@[go_sem] theorem zSP : cfg.byRef 109 = false := rfl
@[go_sem] theorem zSO : cfg.byRef 110 = false := rfl
@[go_sem] theorem zSN : cfg.byRef 111 = false := rfl
@[go_sem] theorem zSM : cfg.byRef 112 = false := rfl
@[go_sem] theorem zSL : cfg.byRef 113 = false := rfl
@[go_sem] theorem zSK : cfg.byRef 114 = false := rfl
@[go_sem] theorem zSJ : cfg.byRef 115 = false := rfl
@[go_sem] theorem zSI : cfg.byRef 116 = false := rfl
@[go_sem] theorem zSH : cfg.byRef 117 = false := rfl
@[go_sem] theorem zSG : cfg.byRef 118 = false := rfl
@[go_sem] theorem zSF : cfg.byRef 119 = false := rfl
@[go_sem] theorem zSE : cfg.byRef 120 = false := rfl
@[go_sem] theorem zSD : cfg.byRef 121 = false := rfl
@[go_sem] theorem zSC : cfg.byRef 122 = false := rfl
@[go_sem] theorem zSB : cfg.byRef 134 = false := rfl
@[go_sem] theorem zSA : cfg.byRef 135 = false := rfl
@[go_sem] theorem zSz : cfg.byRef 136 = false := rfl
@[go_sem] theorem zSy : cfg.byRef 137 = false := rfl
@[go_sem] theorem zSx : cfg.byRef 141 = false := rfl
@[go_sem] theorem zSw : cfg.byRef 142 = false := rfl
@[go_sem] theorem zSv : cfg.byRef 144 = false := rfl
@[go_sem] theorem zSu : cfg.byRef 145 = false := rfl
@[go_sem] theorem zSt : cfg.byRef 146 = false := rfl
@[go_sem] theorem zSs : cfg.byRef 147 = false := rfl
@[go_sem] theorem zSr : cfg.byRef 148 = false := rfl
@[go_sem] theorem zSq : cfg.byRef 166 = false := rfl
@[go_sem] theorem zSp : cfg.byRef 170 = false := rfl
@[go_sem] theorem zSo : cfg.byRef 173 = false := rfl
@[go_sem] theorem zSn : cfg.byRef 174 = false := rfl
@[go_sem] theorem zSm : cfg.byRef 175 = false := rfl
@[go_sem] theorem zSl : cfg.byRef 176 = false := rfl
@[go_sem] theorem zSk : cfg.byRef 177 = false := rfl
@[go_sem] theorem zSj : cfg.byRef 178 = false := rfl
@[go_sem] theorem zSi : cfg.byRef 179 = false := rfl
@[go_sem] theorem zSh : cfg.byRef 195 = false := rfl
@[go_sem] theorem zSg : cfg.byRef 196 = false := rfl
@[go_sem] theorem zSf : cfg.byRef 197 = false := rfl
@[go_sem] theorem zSe : cfg.byRef 198 = false := rfl
@[go_sem] theorem zSd : cfg.byRef 199 = false := rfl
@[go_sem] theorem zSc : cfg.byRef 200 = false := rfl
@[go_sem] theorem zSb : cfg.byRef 211 = false := rfl
@[go_sem] theorem zSa : cfg.byRef 213 = false := rfl
@[go_sem] theorem zR9 : cfg.byRef 214 = false := rfl
@[go_sem] theorem zR8 : cfg.byRef 224 = false := rfl
@[go_sem] theorem zR7 : cfg.byRef 225 = false := rfl
@[go_sem] theorem zR6 : cfg.byRef 226 = false := rfl
@[go_sem] theorem zR5 : cfg.byRef 227 = false := rfl
@[go_sem] theorem zR4 : cfg.byRef 231 = false := rfl
end Go.Proofs.Tryz
set_option maxRecDepth 100000
set_option maxHeartbeats 4000000
set_option linter.unusedSimpArgs false
set_option linter.unusedVariables false
namespace Go.Proofs.Tryz
open Go.Ev
theorem zDU {kk : Nat} {a : Int} {b : Int} {r : Int} (h : znh kk a b = some r) : Ev cfg 95 [(.int .i64 a), (.int .i64 b)] (.int .i64 r) := by
 unfold znh at h
 have E := evT
 rcases zac h with ⟨h1_, h⟩ | ⟨h1_, h⟩
 rotate_left
 rcases zac h with ⟨h2_, h⟩ | ⟨h2_, h⟩
 rotate_left
 rotate_left
 all_goals
  obtain rfl := Option.some.inj h
  refine E.s fun n x => ?_
  simp -dsimp -implicitDefEqProofs only [go_sem, func95, f95, *, simprocAttr]
theorem zIj {kk : Nat} {a : Bool} {r : Int} (h : zvR kk a = some r) : Ev cfg 142 [(.bool (a))] (.int .i64 r) := by
 unfold zvR at h
 have E := evT
 rcases zac h with ⟨h1_, h⟩ | ⟨h1_, h⟩
 rotate_left
 rotate_left
 all_goals
  obtain rfl := Option.some.inj h
  refine E.s fun n x => ?_
  simp -dsimp -implicitDefEqProofs only [go_sem, func142, f142, *, simprocAttr]
theorem zew (a : Int) (b : Int) : Ev cfg 95 [(.int .i64 a), (.int .i64 b)] (.int .i64 (zfG a b)) := zDU (zyE 0 a b)
theorem zvU (a : Bool) : Ev cfg 142 [(.bool (a))] (.int .i64 (sgn a)) := zIj (zB1 0 a)
theorem zwE {kk : Nat} {a : zbw} {b : zbw} {r : Int} (h : ziY kk a b = some r) : Ev cfg 102 [(.agg (zcI a)), (.agg (zcI b))] (.int .i64 r) := by
 unfold ziY at h
 have E := evT
 have E := E.and (zew a.table b.table)
 rcases zac h with ⟨h1_, h⟩ | ⟨h1_, h⟩
 rotate_left
 have E := E.and (zew a.seq b.seq)
 rotate_left
 all_goals
  obtain rfl := Option.some.inj h
  refine E.s fun n x => ?_
  simp -dsimp -implicitDefEqProofs only [go_sem, func102, f102, *, simprocAttr]
theorem zBR {kk : Nat} {a : Val} {b : Val} {r : Int} (h : zlI kk a b = some r) : Ev cfg 104 [(.agg (zhj a)), (.agg (zhj b))] (.int .i64 r) := by
 unfold zlI at h
 have E := evT
 rcases zac h with ⟨h1_, h⟩ | ⟨h1_, h⟩
 have E := E.and (zvU (decide (a.kind < b.kind)))
 rotate_left
 rcases zac h with ⟨h2_, h⟩ | ⟨h2_, h⟩
 have E := E.and (zvU (decide (a.int < b.int)))
 rotate_left
 rcases zac h with ⟨h3_, h⟩ | ⟨h3_, h⟩
 have b4_ := zaq h3_
 have E := E.and (zvU (zda a.text b.text))
 rotate_left
 have b5_ := zam h3_
 rotate_left
 all_goals
  obtain rfl := Option.some.inj h
  refine E.s fun n x => ?_
  simp -dsimp -implicitDefEqProofs only [go_sem, func104, f104, *, simprocAttr]
theorem zwP (a : zbw) (b : zbw) : Ev cfg 102 [(.agg (zcI a)), (.agg (zcI b))] (.int .i64 (zok a b)) := zwE (zth 0 a b)
theorem zuR (a : Val) (b : Val) : Ev cfg 104 [(.agg (zhj a)), (.agg (zhj b))] (.int .i64 (zgW a b)) := zBR (zwO 0 a b)
def ze2 (c2 : zan) (c3 : zan) (K : Ex → St → Option Res) (R : Option Res) : Out (Int) (Int) → Prop
 | .ret r => ∀ (e : Env) (m : Mem), e 4 = (.int .i64 r) → K .ret ⟨e, m⟩ = R
 | .done q => ∀ (e : Env) (m : Mem), zci (e 2) m 2 10 (zbj c2) → zci (e 3) m 3 10 (zbj c3) → K (.exit 0) ⟨e, m⟩ = R
noncomputable def zss : Code := zbq f52 [1, 1, 1, 0, 1, 0, 0]
abbrev zMz (sz : Nat) : Prop := (∀ (a : zan) (b : zan), zbx a + zbx b < sz → Ev cfg 52 [(.agg (zbj a)), (.agg (zbj b))] (.int .i64 (zb0 a b))) ∧ (∀ (a : (Sl zai)) (b : (Sl zai)), zaB a.l + zaB b.l < sz → Ev cfg 50 [(dSl zar a), (dSl zar b)] (.int .i64 (zbF a b))) ∧ (∀ (a : (Sl zad)) (b : (Sl zad)), za9 a.l + za9 b.l < sz → Ev cfg 101 [(dSl zao a), (dSl zao b)] (.int .i64 (zcG a b))) ∧ (∀ (a : (Sl zal)) (b : (Sl zal)), zak a.l + zak b.l < sz → Ev cfg 103 [(dSl zap a), (dSl zap b)] (.int .i64 (zcH a b)))
theorem zlf {c2 : zan} {c3 : zan} {sz : Nat} (hg : zMz sz) {kk : Nat} : ∀ {k : Nat} {s1 : Int} {out : Out (Int) (Int)}, zdk c2 c3 sz kk k s1 = some out → ∃ N, ∀ n, N ≤ n → ∀ k, N ≤ k → ∀ (e : Env) (m : Mem), zci (e 2) m 2 10 (zbj c2) → zci (e 3) m 3 10 (zbj c3) → e 7 = (.int .i64 s1) → ∀ (K : Ex → St → Option Res) (R : Option Res), ze2 c2 c3 K R out → zcj (zbH cfg (dfn cfg n) n zss) K k ⟨e, m⟩ = R := by
 have ⟨_, _, _, hC⟩ := hg
 intro k
 induction k with
 | zero => intro s1 out h; cases h
 | succ k ih => ?_
 intro s1 out h
 have ih := fun x0 {out} => @ih x0 out
 unfold zdk at h
 have E := evT
 rcases zac h with ⟨h1_, h⟩ | ⟨h1_, h⟩
 obtain ⟨b2_, b3_⟩ := zb2 h1_
 obtain ⟨y4, h4_, h⟩ := zaa h
 obtain ⟨_, h5_⟩ := zaI h4_
 have h5_ := zax h5_ (cSl zap)
 obtain ⟨y5, h6_, h⟩ := zaa h
 obtain ⟨_, h7_⟩ := zaI h6_
 have h7_ := zax h7_ (cSl zap)
 obtain ⟨_, h8_, h⟩ := zaa h
 have E := E.and (hC y4 y5 (zag h8_))
 rcases zac h with ⟨h9_, h⟩ | ⟨h9_, h⟩
 rotate_left
 rotate_left
 rcases zbC h1_ with b10_ | ⟨b10_, b11_⟩
 rotate_left
 rotate_left
 all_goals
  first | (obtain rfl := Option.some.inj h; refine E.l fun n k x => ?_) | refine E.c (ih _ h) fun n k x I => ?_
  intro e m i0 i1 i2 K R hK
  obtain ⟨_, _, _⟩ := i0
  obtain ⟨_, _, _⟩ := i1
  rw [zau]
  conv => lhs; arg 4; whnf
  first | (simp -dsimp -implicitDefEqProofs only [go_sem, *, simprocAttr]; simp only [ze2] at hK; refine hK _ _ ?_; simp -dsimp -implicitDefEqProofs only [go_sem, *, simprocAttr]) | (simp -dsimp -implicitDefEqProofs only [go_sem, *, simprocAttr]; refine zah (I.1 _ _ ?_ ?_ ?_ _ _ hK); (iterate 3 (simp -dsimp -implicitDefEqProofs only [go_sem, *, simprocAttr]))) | (simp -dsimp -implicitDefEqProofs only [go_sem, *, simprocAttr]; simp only [ze2] at hK; refine hK _ _ ?_ ?_; (iterate 2 (simp -dsimp -implicitDefEqProofs only [go_sem, *, simprocAttr])))
theorem zvC {kk : Nat} {a : zan} {b : zan} {sz : Nat} (hg : zMz sz) {r : Int} (h : zir kk sz a b = some r) : Ev cfg 52 [(.agg (zbj a)), (.agg (zbj b))] (.int .i64 r) := by
 have ⟨_, _, hI, _⟩ := hg
 unfold zir at h
 have E := evT
 have E := E.and (zew a.kind b.kind)
 rcases zac h with ⟨h12_, h⟩ | ⟨h12_, h⟩
 rotate_left
 have E := E.and (zwP a.row b.row)
 rcases zac h with ⟨h13_, h⟩ | ⟨h13_, h⟩
 rotate_left
 rcases zaz h with ⟨r16_, o15_, h⟩ | ⟨q7, o15_, h⟩
 obtain ⟨_, l14_, E⟩ := E.lp (zlf hg o15_)
 rotate_left
 obtain ⟨_, l17_, E⟩ := E.lp (zlf hg o15_)
 have E := E.and (zew (a.args.l.length : Int) (b.args.l.length : Int))
 rcases zac h with ⟨h18_, h⟩ | ⟨h18_, h⟩
 rotate_left
 have E := E.and (zew a.func b.func)
 rcases zac h with ⟨h19_, h⟩ | ⟨h19_, h⟩
 rotate_left
 obtain ⟨_, h20_, h⟩ := zaa h
 have E := E.and (hI a.items b.items (zag h20_))
 rcases zac h with ⟨h21_, h⟩ | ⟨h21_, h⟩
 rotate_left
 have E := E.and (zew a.op b.op)
 rcases zac h with ⟨h22_, h⟩ | ⟨h22_, h⟩
 rotate_left
 have E := E.and (zuR a.bound b.bound)
 rotate_left
 all_goals
  obtain rfl := Option.some.inj h
  refine E.s fun n x => ?_
  first | (have := l14_; simp -dsimp -implicitDefEqProofs only [go_sem, func52, f52, *, simprocAttr]; refine zah (l14_.1 n (by omega) _ _ ?_ ?_ ?_ _ _ ?_); (iterate 3 (simp -dsimp -implicitDefEqProofs only [go_sem, *, simprocAttr])); simp only [ze2]; intro e m i0; simp -dsimp -implicitDefEqProofs only [go_sem, func52, f52, *, simprocAttr]) | (have := l17_; simp -dsimp -implicitDefEqProofs only [go_sem, func52, f52, *, simprocAttr]; refine zah (l17_.1 n (by omega) _ _ ?_ ?_ ?_ _ _ ?_); (iterate 3 (simp -dsimp -implicitDefEqProofs only [go_sem, *, simprocAttr])); simp only [ze2]; intro e m i0 i1; obtain ⟨_, _, _⟩ := i0; obtain ⟨_, _, _⟩ := i1; simp -dsimp -implicitDefEqProofs only [go_sem, func52, f52, *, simprocAttr]) | (simp -dsimp -implicitDefEqProofs only [go_sem, func52, f52, *, simprocAttr])
def zdA (c1 : Sl zai) (c2 : Sl zai) (K : Ex → St → Option Res) (R : Option Res) : Out (Int) (Int) → Prop
 | .ret r => ∀ (e : Env) (m : Mem), e 4 = (.int .i64 r) → K .ret ⟨e, m⟩ = R
 | .done q => ∀ (e : Env) (m : Mem), e 0 = (dSl zar c1) → e 1 = (dSl zar c2) → K (.exit 0) ⟨e, m⟩ = R
noncomputable def zpT : Code := zbq f50 [1, 0, 1, 0, 0]
theorem zjD {c1 : Sl zai} {c2 : Sl zai} {sz : Nat} (hg : zMz sz) {kk : Nat} : ∀ {k : Nat} {s3 : Int} {out : Out (Int) (Int)}, zfQ c1 c2 sz kk k s3 = some out → ∃ N, ∀ n, N ≤ n → ∀ k, N ≤ k → ∀ (e : Env) (m : Mem), e 0 = (dSl zar c1) → e 1 = (dSl zar c2) → e 5 = (.int .i64 s3) → ∀ (K : Ex → St → Option Res) (R : Option Res), zdA c1 c2 K R out → zcj (zbH cfg (dfn cfg n) n zpT) K k ⟨e, m⟩ = R := by
 have ⟨hA, _, _, _⟩ := hg
 intro k
 induction k with
 | zero => intro s3 out h; cases h
 | succ k ih => ?_
 intro s3 out h
 have ih := fun x0 {out} => @ih x0 out
 unfold zfQ at h
 have E := evT
 rcases zac h with ⟨h1_, h⟩ | ⟨h1_, h⟩
 obtain ⟨b2_, b3_⟩ := zb2 h1_
 obtain ⟨y4, h4_, h⟩ := zaa h
 obtain ⟨_, h5_⟩ := zaI h4_
 have h5_ := zax h5_ zar
 obtain ⟨y5, h6_, h⟩ := zaa h
 obtain ⟨_, h7_⟩ := zaI h6_
 have h7_ := zax h7_ zar
 obtain ⟨_, h8_, h⟩ := zaa h
 have E := E.and (hA y4.atom y5.atom (zag h8_))
 rcases zac h with ⟨h9_, h⟩ | ⟨h9_, h⟩
 rotate_left
 have E := E.and (zew y4.exp y5.exp)
 rcases zac h with ⟨h10_, h⟩ | ⟨h10_, h⟩
 rotate_left
 rotate_left
 rcases zbC h1_ with b11_ | ⟨b11_, b12_⟩
 rotate_left
 rotate_left
 all_goals
  first | (obtain rfl := Option.some.inj h; refine E.l fun n k x => ?_) | refine E.c (ih _ h) fun n k x I => ?_
  intro e m i0 i1 i2 K R hK
  rw [zau]
  conv => lhs; arg 4; whnf
  first | (simp -dsimp -implicitDefEqProofs only [go_sem, *, simprocAttr]; simp only [zdA] at hK; refine hK _ _ ?_; simp -dsimp -implicitDefEqProofs only [go_sem, *, simprocAttr]) | (simp -dsimp -implicitDefEqProofs only [go_sem, *, simprocAttr]; refine zah (I.1 _ _ ?_ ?_ ?_ _ _ hK); (iterate 3 (simp -dsimp -implicitDefEqProofs only [go_sem, *, simprocAttr]))) | (simp -dsimp -implicitDefEqProofs only [go_sem, *, simprocAttr]; simp only [zdA] at hK; refine hK _ _ ?_ ?_; (iterate 2 (simp -dsimp -implicitDefEqProofs only [go_sem, *, simprocAttr])))
theorem zr9 {kk : Nat} {a : (Sl zai)} {b : (Sl zai)} {sz : Nat} (hg : zMz sz) {r : Int} (h : zgJ kk sz a b = some r) : Ev cfg 50 [(dSl zar a), (dSl zar b)] (.int .i64 r) := by
 unfold zgJ at h
 have E := evT
 rcases zaz h with ⟨r15_, o14_, h⟩ | ⟨q7, o14_, h⟩
 obtain ⟨_, l13_, E⟩ := E.lp (zjD hg o14_)
 rotate_left
 obtain ⟨_, l16_, E⟩ := E.lp (zjD hg o14_)
 have E := E.and (zew (a.l.length : Int) (b.l.length : Int))
 rotate_left
 all_goals
  obtain rfl := Option.some.inj h
  refine E.s fun n x => ?_
  first | (have := l13_; simp -dsimp -implicitDefEqProofs only [go_sem, func50, f50, *, simprocAttr]; refine zah (l13_.1 n (by omega) _ _ ?_ ?_ ?_ _ _ ?_); (iterate 3 (simp -dsimp -implicitDefEqProofs only [go_sem, *, simprocAttr])); simp only [zdA]; intro e m i0; simp -dsimp -implicitDefEqProofs only [go_sem, func50, f50, *, simprocAttr]) | (have := l16_; simp -dsimp -implicitDefEqProofs only [go_sem, func50, f50, *, simprocAttr]; refine zah (l16_.1 n (by omega) _ _ ?_ ?_ ?_ _ _ ?_); (iterate 3 (simp -dsimp -implicitDefEqProofs only [go_sem, *, simprocAttr])); simp only [zdA]; intro e m i0 i1; simp -dsimp -implicitDefEqProofs only [go_sem, func50, f50, *, simprocAttr])
def zep (c1 : Sl zad) (c2 : Sl zad) (K : Ex → St → Option Res) (R : Option Res) : Out (Int) (Int) → Prop
 | .ret r => ∀ (e : Env) (m : Mem), e 4 = (.int .i64 r) → K .ret ⟨e, m⟩ = R
 | .done q => ∀ (e : Env) (m : Mem), e 0 = (dSl zao c1) → e 1 = (dSl zao c2) → K (.exit 0) ⟨e, m⟩ = R
noncomputable def zrF : Code := zbq f101 [1, 0, 1, 0, 0]
theorem zkM {c1 : Sl zad} {c2 : Sl zad} {sz : Nat} (hg : zMz sz) {kk : Nat} : ∀ {k : Nat} {s3 : Int} {out : Out (Int) (Int)}, zgH c1 c2 sz kk k s3 = some out → ∃ N, ∀ n, N ≤ n → ∀ k, N ≤ k → ∀ (e : Env) (m : Mem), e 0 = (dSl zao c1) → e 1 = (dSl zao c2) → e 5 = (.int .i64 s3) → ∀ (K : Ex → St → Option Res) (R : Option Res), zep c1 c2 K R out → zcj (zbH cfg (dfn cfg n) n zrF) K k ⟨e, m⟩ = R := by
 have ⟨_, _, _, hC⟩ := hg
 intro k
 induction k with
 | zero => intro s3 out h; cases h
 | succ k ih => ?_
 intro s3 out h
 have ih := fun x0 {out} => @ih x0 out
 unfold zgH at h
 have E := evT
 rcases zac h with ⟨h1_, h⟩ | ⟨h1_, h⟩
 obtain ⟨b2_, b3_⟩ := zb2 h1_
 obtain ⟨y4, h4_, h⟩ := zaa h
 obtain ⟨_, h5_⟩ := zaI h4_
 have h5_ := zax h5_ zao
 obtain ⟨y5, h6_, h⟩ := zaa h
 obtain ⟨_, h7_⟩ := zaI h6_
 have h7_ := zax h7_ zao
 have E := E.and (zuR y4.value y5.value)
 rcases zac h with ⟨h8_, h⟩ | ⟨h8_, h⟩
 rotate_left
 obtain ⟨_, h9_, h⟩ := zaa h
 have E := E.and (hC y4.ann y5.ann (zag h9_))
 rcases zac h with ⟨h10_, h⟩ | ⟨h10_, h⟩
 rotate_left
 rotate_left
 rcases zbC h1_ with b11_ | ⟨b11_, b12_⟩
 rotate_left
 rotate_left
 all_goals
  first | (obtain rfl := Option.some.inj h; refine E.l fun n k x => ?_) | refine E.c (ih _ h) fun n k x I => ?_
  intro e m i0 i1 i2 K R hK
  rw [zau]
  conv => lhs; arg 4; whnf
  first | (simp -dsimp -implicitDefEqProofs only [go_sem, *, simprocAttr]; simp only [zep] at hK; refine hK _ _ ?_; simp -dsimp -implicitDefEqProofs only [go_sem, *, simprocAttr]) | (simp -dsimp -implicitDefEqProofs only [go_sem, *, simprocAttr]; refine zah (I.1 _ _ ?_ ?_ ?_ _ _ hK); (iterate 3 (simp -dsimp -implicitDefEqProofs only [go_sem, *, simprocAttr]))) | (simp -dsimp -implicitDefEqProofs only [go_sem, *, simprocAttr]; simp only [zep] at hK; refine hK _ _ ?_ ?_; (iterate 2 (simp -dsimp -implicitDefEqProofs only [go_sem, *, simprocAttr])))
theorem zuo {kk : Nat} {a : (Sl zad)} {b : (Sl zad)} {sz : Nat} (hg : zMz sz) {r : Int} (h : zhB kk sz a b = some r) : Ev cfg 101 [(dSl zao a), (dSl zao b)] (.int .i64 r) := by
 unfold zhB at h
 have E := evT
 rcases zaz h with ⟨r15_, o14_, h⟩ | ⟨q7, o14_, h⟩
 obtain ⟨_, l13_, E⟩ := E.lp (zkM hg o14_)
 rotate_left
 obtain ⟨_, l16_, E⟩ := E.lp (zkM hg o14_)
 have E := E.and (zew (a.l.length : Int) (b.l.length : Int))
 rotate_left
 all_goals
  obtain rfl := Option.some.inj h
  refine E.s fun n x => ?_
  first | (have := l13_; simp -dsimp -implicitDefEqProofs only [go_sem, func101, f101, *, simprocAttr]; refine zah (l13_.1 n (by omega) _ _ ?_ ?_ ?_ _ _ ?_); (iterate 3 (simp -dsimp -implicitDefEqProofs only [go_sem, *, simprocAttr])); simp only [zep]; intro e m i0; simp -dsimp -implicitDefEqProofs only [go_sem, func101, f101, *, simprocAttr]) | (have := l16_; simp -dsimp -implicitDefEqProofs only [go_sem, func101, f101, *, simprocAttr]; refine zah (l16_.1 n (by omega) _ _ ?_ ?_ ?_ _ _ ?_); (iterate 3 (simp -dsimp -implicitDefEqProofs only [go_sem, *, simprocAttr])); simp only [zep]; intro e m i0 i1; simp -dsimp -implicitDefEqProofs only [go_sem, func101, f101, *, simprocAttr])
def zhn (c1 : Sl zal) (c2 : Sl zal) (K : Ex → St → Option Res) (R : Option Res) : Out (Int) (Int) → Prop
 | .ret r => ∀ (e : Env) (m : Mem), e 4 = (.int .i64 r) → K .ret ⟨e, m⟩ = R
 | .done q => ∀ (e : Env) (m : Mem), e 0 = (dSl zap c1) → e 1 = (dSl zap c2) → K (.exit 0) ⟨e, m⟩ = R
noncomputable def zwU : Code := zbq f103 [1, 0, 1, 0, 0]
theorem zqc {c1 : Sl zal} {c2 : Sl zal} {sz : Nat} (hg : zMz sz) {kk : Nat} : ∀ {k : Nat} {s3 : Int} {out : Out (Int) (Int)}, zjT c1 c2 sz kk k s3 = some out → ∃ N, ∀ n, N ≤ n → ∀ k, N ≤ k → ∀ (e : Env) (m : Mem), e 0 = (dSl zap c1) → e 1 = (dSl zap c2) → e 5 = (.int .i64 s3) → ∀ (K : Ex → St → Option Res) (R : Option Res), zhn c1 c2 K R out → zcj (zbH cfg (dfn cfg n) n zwU) K k ⟨e, m⟩ = R := by
 have ⟨_, hF, _, _⟩ := hg
 intro k
 induction k with
 | zero => intro s3 out h; cases h
 | succ k ih => ?_
 intro s3 out h
 have ih := fun x0 {out} => @ih x0 out
 unfold zjT at h
 have E := evT
 rcases zac h with ⟨h1_, h⟩ | ⟨h1_, h⟩
 obtain ⟨b2_, b3_⟩ := zb2 h1_
 obtain ⟨y4, h4_, h⟩ := zaa h
 obtain ⟨_, h5_⟩ := zaI h4_
 have h5_ := zax h5_ zap
 obtain ⟨y5, h6_, h⟩ := zaa h
 obtain ⟨_, h7_⟩ := zaI h6_
 have h7_ := zax h7_ zap
 obtain ⟨_, h8_, h⟩ := zaa h
 have E := E.and (hF y4.factors y5.factors (zag h8_))
 rcases zac h with ⟨h9_, h⟩ | ⟨h9_, h⟩
 rotate_left
 have E := E.and (zew y4.coeff y5.coeff)
 rcases zac h with ⟨h10_, h⟩ | ⟨h10_, h⟩
 rotate_left
 rotate_left
 rcases zbC h1_ with b11_ | ⟨b11_, b12_⟩
 rotate_left
 rotate_left
 all_goals
  first | (obtain rfl := Option.some.inj h; refine E.l fun n k x => ?_) | refine E.c (ih _ h) fun n k x I => ?_
  intro e m i0 i1 i2 K R hK
  rw [zau]
  conv => lhs; arg 4; whnf
  first | (simp -dsimp -implicitDefEqProofs only [go_sem, *, simprocAttr]; simp only [zhn] at hK; refine hK _ _ ?_; simp -dsimp -implicitDefEqProofs only [go_sem, *, simprocAttr]) | (simp -dsimp -implicitDefEqProofs only [go_sem, *, simprocAttr]; refine zah (I.1 _ _ ?_ ?_ ?_ _ _ hK); (iterate 3 (simp -dsimp -implicitDefEqProofs only [go_sem, *, simprocAttr]))) | (simp -dsimp -implicitDefEqProofs only [go_sem, *, simprocAttr]; simp only [zhn] at hK; refine hK _ _ ?_ ?_; (iterate 2 (simp -dsimp -implicitDefEqProofs only [go_sem, *, simprocAttr])))
theorem zBP {kk : Nat} {a : (Sl zal)} {b : (Sl zal)} {sz : Nat} (hg : zMz sz) {r : Int} (h : zlG kk sz a b = some r) : Ev cfg 103 [(dSl zap a), (dSl zap b)] (.int .i64 r) := by
 unfold zlG at h
 have E := evT
 rcases zaz h with ⟨r15_, o14_, h⟩ | ⟨q7, o14_, h⟩
 obtain ⟨_, l13_, E⟩ := E.lp (zqc hg o14_)
 rotate_left
 obtain ⟨_, l16_, E⟩ := E.lp (zqc hg o14_)
 have E := E.and (zew (a.l.length : Int) (b.l.length : Int))
 rotate_left
 all_goals
  obtain rfl := Option.some.inj h
  refine E.s fun n x => ?_
  first | (have := l13_; simp -dsimp -implicitDefEqProofs only [go_sem, func103, f103, *, simprocAttr]; refine zah (l13_.1 n (by omega) _ _ ?_ ?_ ?_ _ _ ?_); (iterate 3 (simp -dsimp -implicitDefEqProofs only [go_sem, *, simprocAttr])); simp only [zhn]; intro e m i0; simp -dsimp -implicitDefEqProofs only [go_sem, func103, f103, *, simprocAttr]) | (have := l16_; simp -dsimp -implicitDefEqProofs only [go_sem, func103, f103, *, simprocAttr]; refine zah (l16_.1 n (by omega) _ _ ?_ ?_ ?_ _ _ ?_); (iterate 3 (simp -dsimp -implicitDefEqProofs only [go_sem, *, simprocAttr])); simp only [zhn]; intro e m i0 i1; simp -dsimp -implicitDefEqProofs only [go_sem, func103, f103, *, simprocAttr])
theorem zo0 : ∀ s : Nat, s < big → zMz s := by
 intro s
 induction s with
 | zero => intro _; exact ⟨fun _ _ h => absurd h (by omega), fun _ _ h => absurd h (by omega), fun _ _ h => absurd h (by omega), fun _ _ h => absurd h (by omega)⟩
 | succ s ih =>
   intro hb
   have hg := ih (by omega)
   exact ⟨
    fun a b h => zvC (sz := s) hg (zsi (kk := s + 1) (sz := s) (by omega) (by omega) (by omega)),
    fun a b h => zr9 (sz := s) hg (zpI (kk := s + 1) (sz := s) (by omega) (by omega) (by omega)),
    fun a b h => zuo (sz := s) hg (zrx (kk := s + 1) (sz := s) (by omega) (by omega) (by omega)),
    fun a b h => zBP (sz := s) hg (zwM (kk := s + 1) (sz := s) (by omega) (by omega) (by omega))⟩
theorem ziw (a : zan) (b : zan) (h : zbx a + zbx b < big - 1) : Ev cfg 52 [(.agg (zbj a)), (.agg (zbj b))] (.int .i64 (zb0 a b)) := (zo0 (big - 1) (by unfold big; omega)).1 a b h
theorem zsn (a : (Sl zai)) (b : (Sl zai)) (h : zaB a.l + zaB b.l < big - 1) : Ev cfg 50 [(dSl zar a), (dSl zar b)] (.int .i64 (zbF a b)) := (zo0 (big - 1) (by unfold big; omega)).2.1 a b h
theorem zuQ (a : (Sl zad)) (b : (Sl zad)) (h : za9 a.l + za9 b.l < big - 1) : Ev cfg 101 [(dSl zao a), (dSl zao b)] (.int .i64 (zcG a b)) := (zo0 (big - 1) (by unfold big; omega)).2.2.1 a b h
theorem zB4 (a : (Sl zal)) (b : (Sl zal)) (h : zak a.l + zak b.l < big - 1) : Ev cfg 103 [(dSl zap a), (dSl zap b)] (.int .i64 (zcH a b)) := (zo0 (big - 1) (by unfold big; omega)).2.2.2 a b h
end Go.Proofs.Tryz
set_option maxRecDepth 100000
set_option maxHeartbeats 4000000
set_option linter.unusedSimpArgs false
set_option linter.unusedVariables false
namespace Go.Proofs.Tryz
open Go.Ev
theorem zys {kk : Nat} {a : Int} {r : Bool} (h : zjZ kk a = some r) : Ev cfg 112 [(.int .i64 a)] (.bool r) := by
 unfold zjZ at h
 have E := evT
 obtain rfl := Option.some.inj h
 refine E.s fun n x => ?_
 simp -dsimp -implicitDefEqProofs only [go_sem, func112, f112, *, simprocAttr]
theorem zvD {kk : Nat} {a : Int} {r : Bool} (h : zis kk a = some r) : Ev cfg 122 [(.int .i64 a)] (.bool r) := by
 unfold zis at h
 have E := evT
 obtain rfl := Option.some.inj h
 refine E.s fun n x => ?_
 simp -dsimp -implicitDefEqProofs only [go_sem, func122, f122, *, simprocAttr]
theorem zrD (a : Int) : Ev cfg 112 [(.int .i64 a)] (.bool (zHv a)) := zys (zuO 0 a)
theorem zox (a : Int) : Ev cfg 122 [(.int .i64 a)] (.bool (zHv a)) := zvD (zsj 0 a)
theorem zvE {kk : Nat} {a : Int} {b : Int} {r : Int} (h : zit kk a b = some r) : Ev cfg 64 [(.int .i64 a), (.int .i64 b)] (.int .i64 r) := by
 unfold zit at h
 have E := evT
 have E := E.and (zrD a)
 have E := E.and (zrD b)
 rcases zac h with ⟨h1_, h⟩ | ⟨h1_, h⟩
 rcases zac h with ⟨h2_, h⟩ | ⟨h2_, h⟩
 rotate_left
 rotate_left
 rcases zac h with ⟨h3_, h⟩ | ⟨h3_, h⟩
 rotate_left
 rcases zac h with ⟨h4_, h⟩ | ⟨h4_, h⟩
 rotate_left
 rcases zac h with ⟨h5_, h⟩ | ⟨h5_, h⟩
 rotate_left
 rotate_left
 all_goals
  obtain rfl := Option.some.inj h
  refine E.s fun n x => ?_
  simp -dsimp -implicitDefEqProofs only [go_sem, func64, f64, *, simprocAttr]
theorem zta {kk : Nat} {a : Int} {b : Int} {r : Int} (h : zi4 kk a b = some r) : Ev cfg 80 [(.int .i64 a), (.int .i64 b)] (.int .i64 r) := by
 unfold zi4 at h
 have E := evT
 have E := E.and (zox a)
 have E := E.and (zox b)
 rcases zac h with ⟨h1_, h⟩ | ⟨h1_, h⟩
 rcases zac h with ⟨h2_, h⟩ | ⟨h2_, h⟩
 rotate_left
 rotate_left
 rcases zac h with ⟨h3_, h⟩ | ⟨h3_, h⟩
 rotate_left
 rcases zac h with ⟨h4_, h⟩ | ⟨h4_, h⟩
 rotate_left
 rcases zac h with ⟨h5_, h⟩ | ⟨h5_, h⟩
 rotate_left
 rotate_left
 all_goals
  obtain rfl := Option.some.inj h
  refine E.s fun n x => ?_
  simp -dsimp -implicitDefEqProofs only [go_sem, func80, f80, *, simprocAttr]
theorem zd9 (a : Int) (b : Int) : Ev cfg 64 [(.int .i64 a), (.int .i64 b)] (.int .i64 (zfG a b)) := zvE (zll 0 a b)
theorem zmz (a : Int) (b : Int) : Ev cfg 80 [(.int .i64 a), (.int .i64 b)] (.int .i64 (zfG a b)) := zta (zqv 0 a b)
def zh2 (c1 : Sl Int) (c2 : Int) (K : Ex → St → Option Res) (R : Option Res) : Out (Int) (Int) → Prop
 | .ret r => ∀ (e : Env) (m : Mem), e 2 = (.int .i64 r) → K .ret ⟨e, m⟩ = R
 | .done q => ∀ (e : Env) (m : Mem), e 3 = (.int .i64 0) → K (.exit 0) ⟨e, m⟩ = R
noncomputable def zyS : Code := zbq f63 [1, 1, 0, 1, 0, 0]
theorem zrt {c1 : Sl Int} {c2 : Int} {kk : Nat} : ∀ {k : Nat} {s3 : Int} {out : Out (Int) (Int)}, zee c1 c2 kk k s3 = some out → ∃ N, ∀ n, N ≤ n → ∀ k, N ≤ k → ∀ (e : Env) (m : Mem), e 3 = (.int .i64 0) → e 6 = (dSl (cI .i64) c1) → e 7 = (.int .i64 c2) → e 8 = (.int .i64 s3) → ∀ (K : Ex → St → Option Res) (R : Option Res), zh2 c1 c2 K R out → zcj (zbH cfg (dfn cfg n) n zyS) K k ⟨e, m⟩ = R := by
 intro k
 induction k with
 | zero => intro s3 out h; cases h
 | succ k ih => ?_
 intro s3 out h
 have ih := fun x0 {out} => @ih x0 out
 unfold zee at h
 have E := evT
 rcases zac h with ⟨h1_, h⟩ | ⟨h1_, h⟩
 obtain ⟨y4, h2_, h⟩ := zaa h
 obtain ⟨_, h3_⟩ := zaI h2_
 have h3_ := zax h3_ (cI .i64)
 rcases zac h with ⟨h4_, h⟩ | ⟨h4_, h⟩
 rotate_left
 rotate_left
 rotate_left
 all_goals
  first | (obtain rfl := Option.some.inj h; refine E.l fun n k x => ?_) | refine E.c (ih _ h) fun n k x I => ?_
  intro e m i0 i1 i2 i3 K R hK
  rw [zau]
  conv => lhs; arg 4; whnf
  first | (simp -dsimp -implicitDefEqProofs only [go_sem, *, simprocAttr]; simp only [zh2] at hK; refine hK _ _ ?_; simp -dsimp -implicitDefEqProofs only [go_sem, *, simprocAttr]) | (simp -dsimp -implicitDefEqProofs only [go_sem, *, simprocAttr]; refine zah (I.1 _ _ ?_ ?_ ?_ ?_ _ _ hK); (iterate 4 (simp -dsimp -implicitDefEqProofs only [go_sem, *, simprocAttr]))) | (simp -dsimp -implicitDefEqProofs only [go_sem, *, simprocAttr]; simp only [zh2] at hK; refine hK _ _ ?_; simp -dsimp -implicitDefEqProofs only [go_sem, *, simprocAttr])
theorem zD0 {kk : Nat} {a : (Sl Int)} {r : Int} (h : znn kk a = some r) : Ev cfg 63 [(dSl (cI .i64) a)] (.int .i64 r) := by
 unfold znn at h
 have E := evT
 rcases zaz h with ⟨r7_, o6_, h⟩ | ⟨q5, o6_, h⟩
 obtain ⟨_, l5_, E⟩ := E.lp (zrt o6_)
 rotate_left
 obtain ⟨_, l8_, E⟩ := E.lp (zrt o6_)
 rotate_left
 all_goals
  obtain rfl := Option.some.inj h
  refine E.s fun n x => ?_
  first | (have := l5_; simp -dsimp -implicitDefEqProofs only [go_sem, func63, f63, *, simprocAttr]; refine zah (l5_.1 n (by omega) _ _ ?_ ?_ ?_ ?_ _ _ ?_); (iterate 4 (simp -dsimp -implicitDefEqProofs only [go_sem, *, simprocAttr])); simp only [zh2]; intro e m i0; simp -dsimp -implicitDefEqProofs only [go_sem, func63, f63, *, simprocAttr]) | (have := l8_; simp -dsimp -implicitDefEqProofs only [go_sem, func63, f63, *, simprocAttr]; refine zah (l8_.1 n (by omega) _ _ ?_ ?_ ?_ ?_ _ _ ?_); (iterate 4 (simp -dsimp -implicitDefEqProofs only [go_sem, *, simprocAttr])); simp only [zh2]; intro e m i0; simp -dsimp -implicitDefEqProofs only [go_sem, func63, f63, *, simprocAttr])
theorem zkU (a : (Sl Int)) (h : a.l.length < 100) : Ev cfg 63 [(dSl (cI .i64) a)] (.int .i64 (orL a)) := zD0 (zyK 0 a h)
theorem zyo {kk : Nat} {a : Val} {b : Val} {r : Int} (h : zjV kk a b = some r) : Ev cfg 68 [(.agg (zhj a)), (.agg (zhj b))] (.int .i64 r) := by
 unfold zjV at h
 have E := evT
 have E := E.and (zd9 a.kind b.kind)
 have E := E.and (zmz a.int b.int)
 have e1_ := zCV a.text b.text
 obtain ⟨_, h2_, h⟩ := zaa h
 have E := E.and (zkU (Sl.of [(zfG a.kind b.kind), (zfG a.int b.int), (zFk a.text b.text)]) (zag h2_))
 obtain rfl := Option.some.inj h
 refine E.s fun n x => ?_
 (try simp -dsimp -implicitDefEqProofs only [go_sem, simprocAttr] at x)
 simp -dsimp -implicitDefEqProofs only [go_sem, func68, f68, *, simprocAttr]
theorem zrB (a : Val) (b : Val) : Ev cfg 68 [(.agg (zhj a)), (.agg (zhj b))] (.int .i64 (zgW a b)) := zyo (zuJ 0 a b)
abbrev zFE (sz : Nat) : Prop := (∀ (a : (Sl zal)) (b : (Sl zal)), 8 * (zak a.l + zak b.l) + 7 < sz → Ev cfg 28 [(dSl zap a), (dSl zap b)] (.int .i64 (zcH a b))) ∧ (∀ (a : (Sl zal)) (b : (Sl zal)), 8 * (zak a.l + zak b.l) + 6 < sz → Ev cfg 78 [(dSl zap a), (dSl zap b), (.fn (.func 79) [] [])] (.int .i64 (zcH a b))) ∧ (∀ (a : zal) (b : zal), 8 * (zcF a + zcF b) + 5 < sz → Ev cfg 79 [(.agg (zap a)), (.agg (zap b))] (.int .i64 (zfa a b))) ∧ (∀ (a : zal) (b : zal), 8 * (zcF a + zcF b) + 4 < sz → Ev cfg 23 [(.agg (zap a)), (.agg (zap b))] (.int .i64 (zeU a b))) ∧ (∀ (a : (Sl zai)) (b : (Sl zai)), 8 * (zaB a.l + zaB b.l) + 7 < sz → Ev cfg 61 [(dSl zar a), (dSl zar b), (.fn (.func 62) [] [])] (.int .i64 (zbF a b))) ∧ (∀ (a : zai) (b : zai), 8 * (zc4 a + zc4 b) + 5 < sz → Ev cfg 62 [(.agg (zar a)), (.agg (zar b))] (.int .i64 (zcs a b))) ∧ (∀ (a : zan) (b : zan), 8 * (zbx a + zbx b) + 7 < sz → Ev cfg 25 [(.agg (zbj a)), (.agg (zbj b))] (.int .i64 (zb0 a b))) ∧ (∀ (a : (Sl (Sl zal))) (b : (Sl (Sl zal))), 8 * (zcv a.l + zcv b.l) + 6 < sz → Ev cfg 65 [(dSl (cSl zap) a), (dSl (cSl zap) b), (.fn (.func 28) [] [])] (.int .i64 (zpo a b))) ∧ (∀ (a : (Sl zad)) (b : (Sl zad)), 8 * (za9 a.l + za9 b.l) + 6 < sz → Ev cfg 66 [(dSl zao a), (dSl zao b), (.fn (.func 67) [] [])] (.int .i64 (zcG a b))) ∧ (∀ (a : zad) (b : zad), 8 * (zec a + zec b) + 5 < sz → Ev cfg 67 [(.agg (zao a)), (.agg (zao b))] (.int .i64 (zcS a b)))
theorem zsd {kk : Nat} {a : (Sl zal)} {b : (Sl zal)} {sz : Nat} (hg : zFE sz) {r : Int} (h : zgN kk sz a b = some r) : Ev cfg 28 [(dSl zap a), (dSl zap b)] (.int .i64 r) := by
 have ⟨_, hCT, _, _, _, _, _, _, _, _⟩ := hg
 unfold zgN at h
 have E := evT
 obtain ⟨_, h1_, h⟩ := zaa h
 have E := E.and (hCT a b (zag h1_))
 obtain rfl := Option.some.inj h
 refine E.s fun n x => ?_
 simp -dsimp -implicitDefEqProofs only [go_sem, func28, f28, *, simprocAttr]
def za3 (c1 : Sl zal) (c2 : Sl zal) (c3 : Sl zal) (c4 : Int) (K : Ex → St → Option Res) (R : Option Res) : Out (Int) (Int) → Prop
 | .ret r => ∀ (e : Env) (m : Mem), e 6 = (.int .i64 r) → K .ret ⟨e, m⟩ = R
 | .done q => ∀ (e : Env) (m : Mem), e 0 = (dSl zap c1) → e 1 = (dSl zap c2) → K (.exit 0) ⟨e, m⟩ = R
noncomputable def zfB : Code := zbq f78 [1, 0, 1, 0, 0]
theorem zcE {c1 : Sl zal} {c2 : Sl zal} {c3 : Sl zal} {c4 : Int} {sz : Nat} (hg : zFE sz) {kk : Nat} : ∀ {k : Nat} {s5 : Int} {out : Out (Int) (Int)}, zbr c1 c2 c3 c4 sz kk k s5 = some out → ∃ N, ∀ n, N ≤ n → ∀ k, N ≤ k → ∀ (e : Env) (m : Mem), e 0 = (dSl zap c1) → e 1 = (dSl zap c2) → e 2 = (.fn (.func 79) [] []) → e 11 = (dSl zap c3) → e 12 = (.int .i64 c4) → e 13 = (.int .i64 s5) → ∀ (K : Ex → St → Option Res) (R : Option Res), za3 c1 c2 c3 c4 K R out → zcj (zbH cfg (dfn cfg n) n zfB) K k ⟨e, m⟩ = R := by
 have ⟨_, _, hC1, _, _, _, _, _, _, _⟩ := hg
 intro k
 induction k with
 | zero => intro s5 out h; cases h
 | succ k ih => ?_
 intro s5 out h
 have ih := fun x0 {out} => @ih x0 out
 unfold zbr at h
 have E := evT
 rcases zac h with ⟨h1_, h⟩ | ⟨h1_, h⟩
 obtain ⟨y6, h2_, h⟩ := zaa h
 obtain ⟨_, h3_⟩ := zaI h2_
 have h3_ := zax h3_ zap
 rcases zac h with ⟨h4_, h⟩ | ⟨h4_, h⟩
 rotate_left
 obtain ⟨y7, h5_, h⟩ := zaa h
 obtain ⟨_, h6_⟩ := zaI h5_
 have h6_ := zax h6_ zap
 obtain ⟨_, h7_, h⟩ := zaa h
 have E := E.and (hC1 y6 y7 (zag h7_))
 rcases zac h with ⟨h8_, h⟩ | ⟨h8_, h⟩
 rotate_left
 rotate_left
 rotate_left
 all_goals
  first | (obtain rfl := Option.some.inj h; refine E.l fun n k x => ?_) | refine E.c (ih _ h) fun n k x I => ?_
  intro e m i0 i1 i2 i3 i4 i5 K R hK
  rw [zau]
  conv => lhs; arg 4; whnf
  first | (simp -dsimp -implicitDefEqProofs only [go_sem, *, simprocAttr]; simp only [za3] at hK; refine hK _ _ ?_; simp -dsimp -implicitDefEqProofs only [go_sem, *, simprocAttr]) | (simp -dsimp -implicitDefEqProofs only [go_sem, *, simprocAttr]; refine zah (I.1 _ _ ?_ ?_ ?_ ?_ ?_ ?_ _ _ hK); (iterate 6 (simp -dsimp -implicitDefEqProofs only [go_sem, *, simprocAttr]))) | (simp -dsimp -implicitDefEqProofs only [go_sem, *, simprocAttr]; simp only [za3] at hK; refine hK _ _ ?_ ?_; (iterate 2 (simp -dsimp -implicitDefEqProofs only [go_sem, *, simprocAttr])))
theorem zfZ {kk : Nat} {a : (Sl zal)} {b : (Sl zal)} {sz : Nat} (hg : zFE sz) {r : Int} (h : zbz kk sz a b = some r) : Ev cfg 78 [(dSl zap a), (dSl zap b), (.fn (.func 79) [] [])] (.int .i64 r) := by
 unfold zbz at h
 have E := evT
 rcases zaz h with ⟨r11_, o10_, h⟩ | ⟨q9, o10_, h⟩
 obtain ⟨_, l9_, E⟩ := E.lp (zcE hg o10_)
 rotate_left
 obtain ⟨_, l12_, E⟩ := E.lp (zcE hg o10_)
 rcases zac h with ⟨h13_, h⟩ | ⟨h13_, h⟩
 rotate_left
 rotate_left
 all_goals
  obtain rfl := Option.some.inj h
  refine E.s fun n x => ?_
  first | (have := l9_; simp -dsimp -implicitDefEqProofs only [go_sem, func78, f78, *, simprocAttr]; refine zah (l9_.1 n (by omega) _ _ ?_ ?_ ?_ ?_ ?_ ?_ _ _ ?_); (iterate 6 (simp -dsimp -implicitDefEqProofs only [go_sem, *, simprocAttr])); simp only [za3]; intro e m i0; simp -dsimp -implicitDefEqProofs only [go_sem, func78, f78, *, simprocAttr]) | (have := l12_; simp -dsimp -implicitDefEqProofs only [go_sem, func78, f78, *, simprocAttr]; refine zah (l12_.1 n (by omega) _ _ ?_ ?_ ?_ ?_ ?_ ?_ _ _ ?_); (iterate 6 (simp -dsimp -implicitDefEqProofs only [go_sem, *, simprocAttr])); simp only [za3]; intro e m i0 i1; simp -dsimp -implicitDefEqProofs only [go_sem, func78, f78, *, simprocAttr])
theorem zqn {kk : Nat} {a : zal} {b : zal} {sz : Nat} (hg : zFE sz) {r : Int} (h : zfT kk sz a b = some r) : Ev cfg 79 [(.agg (zap a)), (.agg (zap b))] (.int .i64 r) := by
 have ⟨_, _, _, hL, _, _, _, _, _, _⟩ := hg
 unfold zfT at h
 have E := evT
 obtain ⟨_, h1_, h⟩ := zaa h
 have E := E.and (hL a b (zag h1_))
 have E := E.and (zmz a.coeff b.coeff)
 obtain ⟨_, h2_, h⟩ := zaa h
 have E := E.and (zkU (Sl.of [(zeU a b), (zfG a.coeff b.coeff)]) (zag h2_))
 obtain rfl := Option.some.inj h
 refine E.s fun n x => ?_
 (try simp -dsimp -implicitDefEqProofs only [go_sem, simprocAttr] at x)
 simp -dsimp -implicitDefEqProofs only [go_sem, func79, f79, *, simprocAttr]
theorem znD {kk : Nat} {a : zal} {b : zal} {sz : Nat} (hg : zFE sz) {r : Int} (h : zei kk sz a b = some r) : Ev cfg 23 [(.agg (zap a)), (.agg (zap b))] (.int .i64 r) := by
 have ⟨_, _, _, _, hCF, _, _, _, _, _⟩ := hg
 unfold zei at h
 have E := evT
 obtain ⟨_, h1_, h⟩ := zaa h
 have E := E.and (hCF a.factors b.factors (zag h1_))
 obtain rfl := Option.some.inj h
 refine E.s fun n x => ?_
 simp -dsimp -implicitDefEqProofs only [go_sem, func23, f23, *, simprocAttr]
def zaO (c1 : Sl zai) (c2 : Sl zai) (c3 : Sl zai) (c4 : Int) (K : Ex → St → Option Res) (R : Option Res) : Out (Int) (Int) → Prop
 | .ret r => ∀ (e : Env) (m : Mem), e 6 = (.int .i64 r) → K .ret ⟨e, m⟩ = R
 | .done q => ∀ (e : Env) (m : Mem), e 0 = (dSl zar c1) → e 1 = (dSl zar c2) → K (.exit 0) ⟨e, m⟩ = R
noncomputable def zeb : Code := zbq f61 [1, 0, 1, 0, 0]
theorem zcf {c1 : Sl zai} {c2 : Sl zai} {c3 : Sl zai} {c4 : Int} {sz : Nat} (hg : zFE sz) {kk : Nat} : ∀ {k : Nat} {s5 : Int} {out : Out (Int) (Int)}, za6 c1 c2 c3 c4 sz kk k s5 = some out → ∃ N, ∀ n, N ≤ n → ∀ k, N ≤ k → ∀ (e : Env) (m : Mem), e 0 = (dSl zar c1) → e 1 = (dSl zar c2) → e 2 = (.fn (.func 62) [] []) → e 11 = (dSl zar c3) → e 12 = (.int .i64 c4) → e 13 = (.int .i64 s5) → ∀ (K : Ex → St → Option Res) (R : Option Res), zaO c1 c2 c3 c4 K R out → zcj (zbH cfg (dfn cfg n) n zeb) K k ⟨e, m⟩ = R := by
 have ⟨_, _, _, _, _, hF, _, _, _, _⟩ := hg
 intro k
 induction k with
 | zero => intro s5 out h; cases h
 | succ k ih => ?_
 intro s5 out h
 have ih := fun x0 {out} => @ih x0 out
 unfold za6 at h
 have E := evT
 rcases zac h with ⟨h1_, h⟩ | ⟨h1_, h⟩
 obtain ⟨y6, h2_, h⟩ := zaa h
 obtain ⟨_, h3_⟩ := zaI h2_
 have h3_ := zax h3_ zar
 rcases zac h with ⟨h4_, h⟩ | ⟨h4_, h⟩
 rotate_left
 obtain ⟨y7, h5_, h⟩ := zaa h
 obtain ⟨_, h6_⟩ := zaI h5_
 have h6_ := zax h6_ zar
 obtain ⟨_, h7_, h⟩ := zaa h
 have E := E.and (hF y6 y7 (zag h7_))
 rcases zac h with ⟨h8_, h⟩ | ⟨h8_, h⟩
 rotate_left
 rotate_left
 rotate_left
 all_goals
  first | (obtain rfl := Option.some.inj h; refine E.l fun n k x => ?_) | refine E.c (ih _ h) fun n k x I => ?_
  intro e m i0 i1 i2 i3 i4 i5 K R hK
  rw [zau]
  conv => lhs; arg 4; whnf
  first | (simp -dsimp -implicitDefEqProofs only [go_sem, *, simprocAttr]; simp only [zaO] at hK; refine hK _ _ ?_; simp -dsimp -implicitDefEqProofs only [go_sem, *, simprocAttr]) | (simp -dsimp -implicitDefEqProofs only [go_sem, *, simprocAttr]; refine zah (I.1 _ _ ?_ ?_ ?_ ?_ ?_ ?_ _ _ hK); (iterate 6 (simp -dsimp -implicitDefEqProofs only [go_sem, *, simprocAttr]))) | (simp -dsimp -implicitDefEqProofs only [go_sem, *, simprocAttr]; simp only [zaO] at hK; refine hK _ _ ?_ ?_; (iterate 2 (simp -dsimp -implicitDefEqProofs only [go_sem, *, simprocAttr])))
theorem zeA {kk : Nat} {a : (Sl zai)} {b : (Sl zai)} {sz : Nat} (hg : zFE sz) {r : Int} (h : zbe kk sz a b = some r) : Ev cfg 61 [(dSl zar a), (dSl zar b), (.fn (.func 62) [] [])] (.int .i64 r) := by
 unfold zbe at h
 have E := evT
 rcases zaz h with ⟨r11_, o10_, h⟩ | ⟨q9, o10_, h⟩
 obtain ⟨_, l9_, E⟩ := E.lp (zcf hg o10_)
 rotate_left
 obtain ⟨_, l12_, E⟩ := E.lp (zcf hg o10_)
 rcases zac h with ⟨h13_, h⟩ | ⟨h13_, h⟩
 rotate_left
 rotate_left
 all_goals
  obtain rfl := Option.some.inj h
  refine E.s fun n x => ?_
  first | (have := l9_; simp -dsimp -implicitDefEqProofs only [go_sem, func61, f61, *, simprocAttr]; refine zah (l9_.1 n (by omega) _ _ ?_ ?_ ?_ ?_ ?_ ?_ _ _ ?_); (iterate 6 (simp -dsimp -implicitDefEqProofs only [go_sem, *, simprocAttr])); simp only [zaO]; intro e m i0; simp -dsimp -implicitDefEqProofs only [go_sem, func61, f61, *, simprocAttr]) | (have := l12_; simp -dsimp -implicitDefEqProofs only [go_sem, func61, f61, *, simprocAttr]; refine zah (l12_.1 n (by omega) _ _ ?_ ?_ ?_ ?_ ?_ ?_ _ _ ?_); (iterate 6 (simp -dsimp -implicitDefEqProofs only [go_sem, *, simprocAttr])); simp only [zaO]; intro e m i0 i1; simp -dsimp -implicitDefEqProofs only [go_sem, func61, f61, *, simprocAttr])
theorem zmm {kk : Nat} {a : zai} {b : zai} {sz : Nat} (hg : zFE sz) {r : Int} (h : zdH kk sz a b = some r) : Ev cfg 62 [(.agg (zar a)), (.agg (zar b))] (.int .i64 r) := by
 have ⟨_, _, _, _, _, _, hA, _, _, _⟩ := hg
 unfold zdH at h
 have E := evT
 obtain ⟨_, h1_, h⟩ := zaa h
 have E := E.and (hA a.atom b.atom (zag h1_))
 have E := E.and (zd9 a.exp b.exp)
 obtain ⟨_, h2_, h⟩ := zaa h
 have E := E.and (zkU (Sl.of [(zb0 a.atom b.atom), (zfG a.exp b.exp)]) (zag h2_))
 obtain rfl := Option.some.inj h
 refine E.s fun n x => ?_
 (try simp -dsimp -implicitDefEqProofs only [go_sem, simprocAttr] at x)
 simp -dsimp -implicitDefEqProofs only [go_sem, func62, f62, *, simprocAttr]
theorem znF {kk : Nat} {a : zan} {b : zan} {sz : Nat} (hg : zFE sz) {r : Int} (h : zek kk sz a b = some r) : Ev cfg 25 [(.agg (zbj a)), (.agg (zbj b))] (.int .i64 r) := by
 have ⟨_, _, _, _, _, _, _, hCA, hCW, _⟩ := hg
 unfold zek at h
 have E := evT
 have E := E.and (zd9 a.kind b.kind)
 have E := E.and (zd9 a.row.table b.row.table)
 have E := E.and (zd9 a.row.seq b.row.seq)
 obtain ⟨_, h1_, h⟩ := zaa h
 have E := E.and (hCA a.args b.args (zag h1_))
 have E := E.and (zd9 a.func b.func)
 obtain ⟨_, h2_, h⟩ := zaa h
 have E := E.and (hCW a.items b.items (zag h2_))
 have E := E.and (zd9 a.op b.op)
 have E := E.and (zrB a.bound b.bound)
 obtain ⟨_, h3_, h⟩ := zaa h
 have E := E.and (zkU (Sl.of [(zfG a.kind b.kind), (zfG a.row.table b.row.table), (zfG a.row.seq b.row.seq), (zpo a.args b.args), (zfG a.func b.func), (zcG a.items b.items), (zfG a.op b.op), (zgW a.bound b.bound)]) (zag h3_))
 obtain rfl := Option.some.inj h
 refine E.s fun n x => ?_
 (try simp -dsimp -implicitDefEqProofs only [go_sem, simprocAttr] at x)
 simp -dsimp -implicitDefEqProofs only [go_sem, func25, f25, *, simprocAttr]
def zaX (c1 : Sl (Sl zal)) (c2 : Sl (Sl zal)) (c3 : Sl (Sl zal)) (c4 : Int) (K : Ex → St → Option Res) (R : Option Res) : Out (Int) (Int) → Prop
 | .ret r => ∀ (e : Env) (m : Mem), e 6 = (.int .i64 r) → K .ret ⟨e, m⟩ = R
 | .done q => ∀ (e : Env) (m : Mem), e 0 = (dSl (cSl zap) c1) → e 1 = (dSl (cSl zap) c2) → K (.exit 0) ⟨e, m⟩ = R
noncomputable def zeJ : Code := zbq f65 [1, 0, 1, 0, 0]
theorem zco {c1 : Sl (Sl zal)} {c2 : Sl (Sl zal)} {c3 : Sl (Sl zal)} {c4 : Int} {sz : Nat} (hg : zFE sz) {kk : Nat} : ∀ {k : Nat} {s5 : Int} {out : Out (Int) (Int)}, zbf c1 c2 c3 c4 sz kk k s5 = some out → ∃ N, ∀ n, N ≤ n → ∀ k, N ≤ k → ∀ (e : Env) (m : Mem), e 0 = (dSl (cSl zap) c1) → e 1 = (dSl (cSl zap) c2) → e 2 = (.fn (.func 28) [] []) → e 11 = (dSl (cSl zap) c3) → e 12 = (.int .i64 c4) → e 13 = (.int .i64 s5) → ∀ (K : Ex → St → Option Res) (R : Option Res), zaX c1 c2 c3 c4 K R out → zcj (zbH cfg (dfn cfg n) n zeJ) K k ⟨e, m⟩ = R := by
 have ⟨hC, _, _, _, _, _, _, _, _, _⟩ := hg
 intro k
 induction k with
 | zero => intro s5 out h; cases h
 | succ k ih => ?_
 intro s5 out h
 have ih := fun x0 {out} => @ih x0 out
 unfold zbf at h
 have E := evT
 rcases zac h with ⟨h1_, h⟩ | ⟨h1_, h⟩
 obtain ⟨y6, h2_, h⟩ := zaa h
 obtain ⟨_, h3_⟩ := zaI h2_
 have h3_ := zax h3_ (cSl zap)
 rcases zac h with ⟨h4_, h⟩ | ⟨h4_, h⟩
 rotate_left
 obtain ⟨y7, h5_, h⟩ := zaa h
 obtain ⟨_, h6_⟩ := zaI h5_
 have h6_ := zax h6_ (cSl zap)
 obtain ⟨_, h7_, h⟩ := zaa h
 have E := E.and (hC y6 y7 (zag h7_))
 rcases zac h with ⟨h8_, h⟩ | ⟨h8_, h⟩
 rotate_left
 rotate_left
 rotate_left
 all_goals
  first | (obtain rfl := Option.some.inj h; refine E.l fun n k x => ?_) | refine E.c (ih _ h) fun n k x I => ?_
  intro e m i0 i1 i2 i3 i4 i5 K R hK
  rw [zau]
  conv => lhs; arg 4; whnf
  first | (simp -dsimp -implicitDefEqProofs only [go_sem, *, simprocAttr]; simp only [zaX] at hK; refine hK _ _ ?_; simp -dsimp -implicitDefEqProofs only [go_sem, *, simprocAttr]) | (simp -dsimp -implicitDefEqProofs only [go_sem, *, simprocAttr]; refine zah (I.1 _ _ ?_ ?_ ?_ ?_ ?_ ?_ _ _ hK); (iterate 6 (simp -dsimp -implicitDefEqProofs only [go_sem, *, simprocAttr]))) | (simp -dsimp -implicitDefEqProofs only [go_sem, *, simprocAttr]; simp only [zaX] at hK; refine hK _ _ ?_ ?_; (iterate 2 (simp -dsimp -implicitDefEqProofs only [go_sem, *, simprocAttr])))
theorem zff {kk : Nat} {a : (Sl (Sl zal))} {b : (Sl (Sl zal))} {sz : Nat} (hg : zFE sz) {r : Int} (h : zbp kk sz a b = some r) : Ev cfg 65 [(dSl (cSl zap) a), (dSl (cSl zap) b), (.fn (.func 28) [] [])] (.int .i64 r) := by
 unfold zbp at h
 have E := evT
 rcases zaz h with ⟨r11_, o10_, h⟩ | ⟨q9, o10_, h⟩
 obtain ⟨_, l9_, E⟩ := E.lp (zco hg o10_)
 rotate_left
 obtain ⟨_, l12_, E⟩ := E.lp (zco hg o10_)
 rcases zac h with ⟨h13_, h⟩ | ⟨h13_, h⟩
 rotate_left
 rotate_left
 all_goals
  obtain rfl := Option.some.inj h
  refine E.s fun n x => ?_
  first | (have := l9_; simp -dsimp -implicitDefEqProofs only [go_sem, func65, f65, *, simprocAttr]; refine zah (l9_.1 n (by omega) _ _ ?_ ?_ ?_ ?_ ?_ ?_ _ _ ?_); (iterate 6 (simp -dsimp -implicitDefEqProofs only [go_sem, *, simprocAttr])); simp only [zaX]; intro e m i0; simp -dsimp -implicitDefEqProofs only [go_sem, func65, f65, *, simprocAttr]) | (have := l12_; simp -dsimp -implicitDefEqProofs only [go_sem, func65, f65, *, simprocAttr]; refine zah (l12_.1 n (by omega) _ _ ?_ ?_ ?_ ?_ ?_ ?_ _ _ ?_); (iterate 6 (simp -dsimp -implicitDefEqProofs only [go_sem, *, simprocAttr])); simp only [zaX]; intro e m i0 i1; simp -dsimp -implicitDefEqProofs only [go_sem, func65, f65, *, simprocAttr])
def zaN (c1 : Sl zad) (c2 : Sl zad) (c3 : Sl zad) (c4 : Int) (K : Ex → St → Option Res) (R : Option Res) : Out (Int) (Int) → Prop
 | .ret r => ∀ (e : Env) (m : Mem), e 6 = (.int .i64 r) → K .ret ⟨e, m⟩ = R
 | .done q => ∀ (e : Env) (m : Mem), e 0 = (dSl zao c1) → e 1 = (dSl zao c2) → K (.exit 0) ⟨e, m⟩ = R
noncomputable def zea : Code := zbq f66 [1, 0, 1, 0, 0]
theorem zce {c1 : Sl zad} {c2 : Sl zad} {c3 : Sl zad} {c4 : Int} {sz : Nat} (hg : zFE sz) {kk : Nat} : ∀ {k : Nat} {s5 : Int} {out : Out (Int) (Int)}, za5 c1 c2 c3 c4 sz kk k s5 = some out → ∃ N, ∀ n, N ≤ n → ∀ k, N ≤ k → ∀ (e : Env) (m : Mem), e 0 = (dSl zao c1) → e 1 = (dSl zao c2) → e 2 = (.fn (.func 67) [] []) → e 11 = (dSl zao c3) → e 12 = (.int .i64 c4) → e 13 = (.int .i64 s5) → ∀ (K : Ex → St → Option Res) (R : Option Res), zaN c1 c2 c3 c4 K R out → zcj (zbH cfg (dfn cfg n) n zea) K k ⟨e, m⟩ = R := by
 have ⟨_, _, _, _, _, _, _, _, _, hI⟩ := hg
 intro k
 induction k with
 | zero => intro s5 out h; cases h
 | succ k ih => ?_
 intro s5 out h
 have ih := fun x0 {out} => @ih x0 out
 unfold za5 at h
 have E := evT
 rcases zac h with ⟨h1_, h⟩ | ⟨h1_, h⟩
 obtain ⟨y6, h2_, h⟩ := zaa h
 obtain ⟨_, h3_⟩ := zaI h2_
 have h3_ := zax h3_ zao
 rcases zac h with ⟨h4_, h⟩ | ⟨h4_, h⟩
 rotate_left
 obtain ⟨y7, h5_, h⟩ := zaa h
 obtain ⟨_, h6_⟩ := zaI h5_
 have h6_ := zax h6_ zao
 obtain ⟨_, h7_, h⟩ := zaa h
 have E := E.and (hI y6 y7 (zag h7_))
 rcases zac h with ⟨h8_, h⟩ | ⟨h8_, h⟩
 rotate_left
 rotate_left
 rotate_left
 all_goals
  first | (obtain rfl := Option.some.inj h; refine E.l fun n k x => ?_) | refine E.c (ih _ h) fun n k x I => ?_
  intro e m i0 i1 i2 i3 i4 i5 K R hK
  rw [zau]
  conv => lhs; arg 4; whnf
  first | (simp -dsimp -implicitDefEqProofs only [go_sem, *, simprocAttr]; simp only [zaN] at hK; refine hK _ _ ?_; simp -dsimp -implicitDefEqProofs only [go_sem, *, simprocAttr]) | (simp -dsimp -implicitDefEqProofs only [go_sem, *, simprocAttr]; refine zah (I.1 _ _ ?_ ?_ ?_ ?_ ?_ ?_ _ _ hK); (iterate 6 (simp -dsimp -implicitDefEqProofs only [go_sem, *, simprocAttr]))) | (simp -dsimp -implicitDefEqProofs only [go_sem, *, simprocAttr]; simp only [zaN] at hK; refine hK _ _ ?_ ?_; (iterate 2 (simp -dsimp -implicitDefEqProofs only [go_sem, *, simprocAttr])))
theorem zez {kk : Nat} {a : (Sl zad)} {b : (Sl zad)} {sz : Nat} (hg : zFE sz) {r : Int} (h : zbd kk sz a b = some r) : Ev cfg 66 [(dSl zao a), (dSl zao b), (.fn (.func 67) [] [])] (.int .i64 r) := by
 unfold zbd at h
 have E := evT
 rcases zaz h with ⟨r11_, o10_, h⟩ | ⟨q9, o10_, h⟩
 obtain ⟨_, l9_, E⟩ := E.lp (zce hg o10_)
 rotate_left
 obtain ⟨_, l12_, E⟩ := E.lp (zce hg o10_)
 rcases zac h with ⟨h13_, h⟩ | ⟨h13_, h⟩
 rotate_left
 rotate_left
 all_goals
  obtain rfl := Option.some.inj h
  refine E.s fun n x => ?_
  first | (have := l9_; simp -dsimp -implicitDefEqProofs only [go_sem, func66, f66, *, simprocAttr]; refine zah (l9_.1 n (by omega) _ _ ?_ ?_ ?_ ?_ ?_ ?_ _ _ ?_); (iterate 6 (simp -dsimp -implicitDefEqProofs only [go_sem, *, simprocAttr])); simp only [zaN]; intro e m i0; simp -dsimp -implicitDefEqProofs only [go_sem, func66, f66, *, simprocAttr]) | (have := l12_; simp -dsimp -implicitDefEqProofs only [go_sem, func66, f66, *, simprocAttr]; refine zah (l12_.1 n (by omega) _ _ ?_ ?_ ?_ ?_ ?_ ?_ _ _ ?_); (iterate 6 (simp -dsimp -implicitDefEqProofs only [go_sem, *, simprocAttr])); simp only [zaN]; intro e m i0 i1; simp -dsimp -implicitDefEqProofs only [go_sem, func66, f66, *, simprocAttr])
theorem znE {kk : Nat} {a : zad} {b : zad} {sz : Nat} (hg : zFE sz) {r : Int} (h : zej kk sz a b = some r) : Ev cfg 67 [(.agg (zao a)), (.agg (zao b))] (.int .i64 r) := by
 have ⟨hC, _, _, _, _, _, _, _, _, _⟩ := hg
 unfold zej at h
 have E := evT
 have E := E.and (zrB a.value b.value)
 obtain ⟨_, h1_, h⟩ := zaa h
 have E := E.and (hC a.ann b.ann (zag h1_))
 obtain ⟨_, h2_, h⟩ := zaa h
 have E := E.and (zkU (Sl.of [(zgW a.value b.value), (zcH a.ann b.ann)]) (zag h2_))
 obtain rfl := Option.some.inj h
 refine E.s fun n x => ?_
 (try simp -dsimp -implicitDefEqProofs only [go_sem, simprocAttr] at x)
 simp -dsimp -implicitDefEqProofs only [go_sem, func67, f67, *, simprocAttr]
theorem zpt : ∀ s : Nat, s < big → zFE s := by
 intro s
 induction s with
 | zero => intro _; exact ⟨fun _ _ h => absurd h (by omega), fun _ _ h => absurd h (by omega), fun _ _ h => absurd h (by omega), fun _ _ h => absurd h (by omega), fun _ _ h => absurd h (by omega), fun _ _ h => absurd h (by omega), fun _ _ h => absurd h (by omega), fun _ _ h => absurd h (by omega), fun _ _ h => absurd h (by omega), fun _ _ h => absurd h (by omega)⟩
 | succ s ih =>
   intro hb
   have hg := ih (by omega)
   exact ⟨
    fun a b h => zsd (sz := s) hg (zpN (kk := s + 1) (sz := s) (by omega) (by omega) (by omega)),
    fun a b h => zfZ (sz := s) hg (zfA (kk := s + 1) (sz := s) (by omega) (by omega) (by omega)),
    fun a b h => zqn (sz := s) hg (znU (kk := s + 1) (sz := s) (by omega) (by omega) (by omega)),
    fun a b h => znD (sz := s) hg (zlL (kk := s + 1) (sz := s) (by omega) (by omega) (by omega)),
    fun a b h => zeA (sz := s) hg (zd8 (kk := s + 1) (sz := s) (by omega) (by omega) (by omega)),
    fun a b h => zmm (sz := s) hg (zkT (kk := s + 1) (sz := s) (by omega) (by omega) (by omega)),
    fun a b h => znF (sz := s) hg (zlN (kk := s + 1) (sz := s) (by omega) (by omega) (by omega)),
    fun a b h => zff (sz := s) hg (zeF (kk := s + 1) (sz := s) (by omega) (by omega) (by omega)),
    fun a b h => zez (sz := s) hg (zd7 (kk := s + 1) (sz := s) (by omega) (by omega) (by omega)),
    fun a b h => znE (sz := s) hg (zlM (kk := s + 1) (sz := s) (by omega) (by omega) (by omega))⟩
theorem zsr (a : (Sl zal)) (b : (Sl zal)) (h : 8 * (zak a.l + zak b.l) + 7 < big - 1) : Ev cfg 28 [(dSl zap a), (dSl zap b)] (.int .i64 (zcH a b)) := (zpt (big - 1) (by unfold big; omega)).1 a b h
theorem znW (a : zal) (b : zal) (h : 8 * (zcF a + zcF b) + 4 < big - 1) : Ev cfg 23 [(.agg (zap a)), (.agg (zap b))] (.int .i64 (zeU a b)) := (zpt (big - 1) (by unfold big; omega)).2.2.2.1 a b h
theorem znY (a : zan) (b : zan) (h : 8 * (zbx a + zbx b) + 7 < big - 1) : Ev cfg 25 [(.agg (zbj a)), (.agg (zbj b))] (.int .i64 (zb0 a b)) := (zpt (big - 1) (by unfold big; omega)).2.2.2.2.2.2.1 a b h
theorem znX (a : zad) (b : zad) (h : 8 * (zec a + zec b) + 5 < big - 1) : Ev cfg 67 [(.agg (zao a)), (.agg (zao b))] (.int .i64 (zcS a b)) := (zpt (big - 1) (by unfold big; omega)).2.2.2.2.2.2.2.2.2 a b h
end Go.Proofs.Tryz
set_option maxRecDepth 100000
set_option maxHeartbeats 4000000
set_option linter.unusedSimpArgs false
set_option linter.unusedVariables false
namespace Go.Proofs.Tryz
open Go.Ev
theorem zzs {kk : Nat} {a : zbw} {r : Bool} (h : znO kk a = some r) : Ev cfg 29 [(.agg (zcI a))] (.bool r) := by
 unfold znO at h
 have E := evT
 rcases Bool.eq_false_or_eq_true ((decide (1 ≤ a.table))) with h1_ | h1_
 rotate_left
 rotate_left
 all_goals
  obtain rfl := Option.some.inj h
  refine E.s fun n x => ?_
  simp -dsimp -implicitDefEqProofs only [go_sem, func29, f29, *, simprocAttr]
theorem zsL (a : zbw) : Ev cfg 29 [(.agg (zcI a))] (.bool (zdV a)) := zzs (zvM 0 a)
theorem zBL {kk : Nat} {a : Val} {r : Bool} (h : zlC kk a = some r) : Ev cfg 117 [(.agg (zhj a))] (.bool r) := by
 unfold zlC at h
 have E := evT
 rcases zac h with ⟨h1_, h⟩ | ⟨h1_, h⟩
 rotate_left
 rcases zac h with ⟨h2_, h⟩ | ⟨h2_, h⟩
 rcases Bool.eq_false_or_eq_true ((a.int == 0)) with h3_ | h3_
 rotate_left
 rotate_left
 rcases zac h with ⟨h4_, h⟩ | ⟨h4_, h⟩
 rcases Bool.eq_false_or_eq_true ((a.int == 0)) with h5_ | h5_
 rotate_left
 rcases Bool.eq_false_or_eq_true ((a.int == 1)) with h6_ | h6_
 rotate_left
 rotate_left
 rotate_left
 all_goals
  obtain rfl := Option.some.inj h
  refine E.s fun n x => ?_
  simp -dsimp -implicitDefEqProofs only [go_sem, func117, f117, *, simprocAttr]
theorem zpO (a : Val) : Ev cfg 117 [(.agg (zhj a))] (.bool (zbS a)) := zBL (zwI 0 a)
theorem zFB {kk : Nat} {a : Val} {r : Bool} (h : zpJ kk a = some r) : Ev cfg 141 [(.agg (zhj a))] (.bool r) := by
 unfold zpJ at h
 have E := evT
 rcases zac h with ⟨h1_, h⟩ | ⟨h1_, h⟩
 rotate_left
 rcases zac h with ⟨h2_, h⟩ | ⟨h2_, h⟩
 rcases Bool.eq_false_or_eq_true ((a.int == 0)) with h3_ | h3_
 rotate_left
 rotate_left
 rcases zac h with ⟨h4_, h⟩ | ⟨h4_, h⟩
 rcases Bool.eq_false_or_eq_true ((a.text == [])) with h5_ | h5_
 rcases Bool.eq_false_or_eq_true ((a.int == 0)) with h6_ | h6_
 rotate_left
 rotate_left
 rcases Bool.eq_false_or_eq_true ((a.int == 0)) with h7_ | h7_
 rotate_left
 rotate_left
 rotate_left
 all_goals
  obtain rfl := Option.some.inj h
  refine E.s fun n x => ?_
  simp -dsimp -implicitDefEqProofs only [go_sem, func141, f141, *, simprocAttr]
theorem ztj (a : Val) : Ev cfg 141 [(.agg (zhj a))] (.bool (zbS a)) := zFB (zzC 0 a)
theorem zFy {kk : Nat} {a : zan} {r : Bool} (h : ztg kk a = some r) : Ev cfg 96 [(.agg (zbj a))] (.bool r) := by
 unfold ztg at h
 have E := evT
 rcases Bool.eq_false_or_eq_true ((a.func == 0)) with h1_ | h1_
 rcases Bool.eq_false_or_eq_true (((a.items.l.length : Int) == 0)) with h2_ | h2_
 rcases Bool.eq_false_or_eq_true ((a.op == 0)) with h3_ | h3_
 rotate_left
 rotate_left
 rotate_left
 rotate_left
 all_goals
  obtain rfl := Option.some.inj h
  refine E.s fun n x => ?_
  simp -dsimp -implicitDefEqProofs only [go_sem, func96, f96, *, simprocAttr]
theorem zpP (a : zan) : Ev cfg 96 [(.agg (zbj a))] (.bool (zj5 a)) := zFy (zzz 0 a)
theorem zDV {kk : Nat} {a : (Sl zal)} {r : Bool} (h : zni kk a = some r) : Ev cfg 99 [(dSl zap a)] (.bool r) := by
 unfold zni at h
 have E := evT
 rcases zac h with ⟨h1_, h⟩ | ⟨h1_, h⟩
 obtain ⟨y1, h2_, h⟩ := zaa h
 have h2_ := zax h2_ zap
 rcases zac h with ⟨h3_, h⟩ | ⟨h3_, h⟩
 rcases zac h with ⟨h4_, h⟩ | ⟨h4_, h⟩
 obtain ⟨y2, h5_, h⟩ := zaa h
 have h5_ := zax h5_ zar
 rcases zac h with ⟨h6_, h⟩ | ⟨h6_, h⟩
 rotate_left
 rotate_left
 rotate_left
 rotate_left
 rotate_left
 all_goals
  obtain rfl := Option.some.inj h
  refine E.s fun n x => ?_
  simp -dsimp -implicitDefEqProofs only [go_sem, func99, f99, *, simprocAttr]
theorem zws (a : (Sl zal)) : Ev cfg 99 [(dSl zap a)] (.bool (zk5 a)) := zDV (zyF 0 a)
theorem zpy {kk : Nat} {a : zan} {r : Bool} (h : zhg kk a = some r) : Ev cfg 24 [(.agg (zbj a))] (.bool r) := by
 unfold zhg at h
 have E := evT
 rcases Bool.eq_false_or_eq_true ((a.kind == 3)) with h1_ | h1_
 rotate_left
 rotate_left
 all_goals
  obtain rfl := Option.some.inj h
  refine E.s fun n x => ?_
  simp -dsimp -implicitDefEqProofs only [go_sem, func24, f24, *, simprocAttr]
theorem zj2 (a : zan) : Ev cfg 24 [(.agg (zbj a))] (.bool (zvj a)) := zpy (zmM 0 a)
theorem zpx {kk : Nat} {a : (Sl zal)} {r : Bool} (h : zfm kk a = some r) : Ev cfg 44 [(dSl zap a)] (.bool r) := by
 unfold zfm at h
 have E := evT
 rcases zac h with ⟨h1_, h⟩ | ⟨h1_, h⟩
 obtain ⟨y1, h2_, h⟩ := zaa h
 have h2_ := zax h2_ zap
 rotate_left
 rotate_left
 all_goals
  obtain rfl := Option.some.inj h
  refine E.s fun n x => ?_
  simp -dsimp -implicitDefEqProofs only [go_sem, func44, f44, *, simprocAttr]
theorem zpR (a : (Sl zal)) : Ev cfg 44 [(dSl zap a)] (.bool (zhR a)) := zpx (zmL 0 a)
theorem ztc {kk : Nat} {a : (Sl zal)} {r : Bool} (h : zhf kk a = some r) : Ev cfg 43 [(dSl zap a)] (.bool r) := by
 unfold zhf at h
 have E := evT
 rcases zac h with ⟨h1_, h⟩ | ⟨h1_, h⟩
 have b2_ := zaq h1_
 obtain ⟨y1, h3_, h⟩ := zaa h
 have h3_ := zax h3_ zap
 rcases zac h with ⟨h4_, h⟩ | ⟨h4_, h⟩
 have b5_ := zaq h4_
 rcases zac h with ⟨h6_, h⟩ | ⟨h6_, h⟩
 rotate_left
 obtain ⟨y2, h7_, h⟩ := zaa h
 have h7_ := zax h7_ zar
 have E := E.and (zj2 y2.atom)
 rcases Bool.eq_false_or_eq_true ((y2.exp == 1)) with h8_ | h8_
 rcases Bool.eq_false_or_eq_true ((y2.atom.kind == 2)) with h9_ | h9_
 rotate_left
 rotate_left
 rcases Bool.eq_false_or_eq_true ((y2.atom.kind == 2)) with h10_ | h10_
 rotate_left
 rotate_left
 have b11_ := zam h4_
 rotate_left
 have b12_ := zam h1_
 rotate_left
 all_goals
  obtain rfl := Option.some.inj h
  refine E.s fun n x => ?_
  simp -dsimp -implicitDefEqProofs only [go_sem, func43, f43, *, simprocAttr]
theorem ztl (a : (Sl zal)) : Ev cfg 43 [(dSl zap a)] (.bool (zq4 a)) := ztc (zqx 0 a)
def zgQ (c1 : Sl zal) (K : Ex → St → Option Res) (R : Option Res) : Out (Bool) (Int) → Prop
 | .ret r => ∀ (e : Env) (m : Mem), e 2 = (.bool r) → K .ret ⟨e, m⟩ = R
 | .done q => ∀ (e : Env) (m : Mem), K (.exit 0) ⟨e, m⟩ = R
noncomputable def zvW : Code := zbq f98 [1, 0, 1, 0, 0]
theorem zot {c1 : Sl zal} {kk : Nat} : ∀ {k : Nat} {s2 : Int} {out : Out (Bool) (Int)}, zeW c1 kk k s2 = some out → ∃ N, ∀ n, N ≤ n → ∀ k, N ≤ k → ∀ (e : Env) (m : Mem), e 0 = (dSl zap c1) → e 3 = (.int .i64 s2) → ∀ (K : Ex → St → Option Res) (R : Option Res), zgQ c1 K R out → zcj (zbH cfg (dfn cfg n) n zvW) K k ⟨e, m⟩ = R := by
 intro k
 induction k with
 | zero => intro s2 out h; cases h
 | succ k ih => ?_
 intro s2 out h
 have ih := fun x0 {out} => @ih x0 out
 unfold zeW at h
 have E := evT
 rcases zac h with ⟨h1_, h⟩ | ⟨h1_, h⟩
 obtain ⟨y3, h2_, h⟩ := zaa h
 obtain ⟨_, h3_⟩ := zaI h2_
 have h3_ := zax h3_ zap
 rcases zac h with ⟨h4_, h⟩ | ⟨h4_, h⟩
 rotate_left
 rotate_left
 rotate_left
 all_goals
  first | (obtain rfl := Option.some.inj h; refine E.l fun n k x => ?_) | refine E.c (ih _ h) fun n k x I => ?_
  intro e m i0 i1 K R hK
  rw [zau]
  conv => lhs; arg 4; whnf
  first | (simp -dsimp -implicitDefEqProofs only [go_sem, *, simprocAttr]; simp only [zgQ] at hK; refine hK _ _ ?_; simp -dsimp -implicitDefEqProofs only [go_sem, *, simprocAttr]) | (simp -dsimp -implicitDefEqProofs only [go_sem, *, simprocAttr]; refine zah (I.1 _ _ ?_ ?_ _ _ hK); (iterate 2 (simp -dsimp -implicitDefEqProofs only [go_sem, *, simprocAttr]))) | (simp -dsimp -implicitDefEqProofs only [go_sem, *, simprocAttr]; simp only [zgQ] at hK; refine hK _ _)
theorem zzu {kk : Nat} {a : (Sl zal)} {r : Bool} (h : zkA kk a = some r) : Ev cfg 98 [(dSl zap a)] (.bool r) := by
 unfold zkA at h
 have E := evT
 rcases zaz h with ⟨r7_, o6_, h⟩ | ⟨q4, o6_, h⟩
 obtain ⟨_, l5_, E⟩ := E.lp (zot o6_)
 rotate_left
 obtain ⟨_, l8_, E⟩ := E.lp (zot o6_)
 rotate_left
 all_goals
  obtain rfl := Option.some.inj h
  refine E.s fun n x => ?_
  first | (have := l5_; simp -dsimp -implicitDefEqProofs only [go_sem, func98, f98, *, simprocAttr]; refine zah (l5_.1 n (by omega) _ _ ?_ ?_ _ _ ?_); (iterate 2 (simp -dsimp -implicitDefEqProofs only [go_sem, *, simprocAttr])); simp only [zgQ]; intro e m i0; simp -dsimp -implicitDefEqProofs only [go_sem, func98, f98, *, simprocAttr]) | (have := l8_; simp -dsimp -implicitDefEqProofs only [go_sem, func98, f98, *, simprocAttr]; refine zah (l8_.1 n (by omega) _ _ ?_ ?_ _ _ ?_); (iterate 2 (simp -dsimp -implicitDefEqProofs only [go_sem, *, simprocAttr])); simp only [zgQ]; intro e m; simp -dsimp -implicitDefEqProofs only [go_sem, func98, f98, *, simprocAttr])
theorem zsM (a : Sl zal) (h : a.l.length < big - 1) : Ev cfg 98 [(dSl zap a)] (.bool (zem a)) := zzu (zvO (kk := big) a h (by omega))
def zgF (c29 : Sl zal) (c30 : Int) (c31 : Int) (c32 : Sl zai) (c33 : Int) (c34 : Int) (c35 : Sl zad) (c36 : Int) (K : Ex → St → Option Res) (R : Option Res) : Out (Int) (Int × Int) → Prop
 | .ret r => ∀ (e : Env) (m : Mem), e 2 = (.int .i64 r) → K .ret ⟨e, m⟩ = R
 | .done q => ∀ (e : Env) (m : Mem), e 3 = (.int .i64 q.1) → e 12 = (dSl zap c29) → e 13 = (.int .i64 c30) → e 14 = (.int .i64 c31) → e 25 = (dSl zar c32) → e 26 = (.int .i64 c33) → e 27 = (.int .i64 c34) → K (.exit 6) ⟨e, m⟩ = R
noncomputable def zsu : Code := zbq f56 [1, 1, 0, 1, 0, 0, 1, 1, 0, 0, 1, 1, 1, 0, 0, 1, 1, 0, 0, 1, 1, 1, 0, 0]
abbrev zPD (sz : Nat) : Prop := (∀ (a : (Sl zal)), zak a.l < sz → Ev cfg 56 [(dSl zap a)] (.int .i64 (zlq a)))
theorem zlh {c29 : Sl zal} {c30 : Int} {c31 : Int} {c32 : Sl zai} {c33 : Int} {c34 : Int} {c35 : Sl zad} {c36 : Int} {sz : Nat} (hg : zPD sz) {kk : Nat} : ∀ {k : Nat} {s28 : Int} {s37 : Int} {out : Out (Int) (Int × Int)}, zcL c29 c30 c31 c32 c33 c34 c35 c36 sz kk k s28 s37 = some out → ∃ N, ∀ n, N ≤ n → ∀ k, N ≤ k → ∀ (e : Env) (m : Mem), e 3 = (.int .i64 s28) → e 12 = (dSl zap c29) → e 13 = (.int .i64 c30) → e 14 = (.int .i64 c31) → e 25 = (dSl zar c32) → e 26 = (.int .i64 c33) → e 27 = (.int .i64 c34) → e 46 = (dSl zao c35) → e 47 = (.int .i64 c36) → e 48 = (.int .i64 s37) → ∀ (K : Ex → St → Option Res) (R : Option Res), zgF c29 c30 c31 c32 c33 c34 c35 c36 K R out → zcj (zbH cfg (dfn cfg n) n zsu) K k ⟨e, m⟩ = R := by
 have hS := hg
 intro k
 induction k with
 | zero => intro s28 s37 out h; cases h
 | succ k ih => ?_
 intro s28 s37 out h
 have ih := fun x0 x1 {out} => @ih x0 x1 out
 unfold zcL at h
 have E := evT
 rcases zac h with ⟨h1_, h⟩ | ⟨h1_, h⟩
 obtain ⟨y38, h2_, h⟩ := zaa h
 obtain ⟨_, h3_⟩ := zaI h2_
 have h3_ := zax h3_ zao
 obtain ⟨_, h4_, h⟩ := zaa h
 have E := E.and (hS y38.ann (zag h4_))
 rotate_left
 rotate_left
 all_goals
  first | (obtain rfl := Option.some.inj h; refine E.l fun n k x => ?_) | refine E.c (ih _ _ h) fun n k x I => ?_
  intro e m i0 i1 i2 i3 i4 i5 i6 i7 i8 i9 K R hK
  rw [zau]
  conv => lhs; arg 4; whnf
  first | (simp -dsimp -implicitDefEqProofs only [go_sem, *, simprocAttr]; refine zah (I.1 _ _ ?_ ?_ ?_ ?_ ?_ ?_ ?_ ?_ ?_ ?_ _ _ hK); (iterate 10 (simp -dsimp -implicitDefEqProofs only [go_sem, *, simprocAttr]))) | (simp -dsimp -implicitDefEqProofs only [go_sem, *, simprocAttr]; simp only [zgF] at hK; refine hK _ _ ?_ ?_ ?_ ?_ ?_ ?_ ?_; (iterate 7 (simp -dsimp -implicitDefEqProofs only [go_sem, *, simprocAttr])))
def zgG (c15 : Sl zal) (c16 : Int) (c17 : Int) (c18 : Sl zai) (c19 : Int) (c20 : Int) (c21 : Sl (Sl zal)) (c22 : Int) (c24 : zai) (K : Ex → St → Option Res) (R : Option Res) : Out (Int) (Int × Int) → Prop
 | .ret r => ∀ (e : Env) (m : Mem), e 2 = (.int .i64 r) → K .ret ⟨e, m⟩ = R
 | .done q => ∀ (e : Env) (m : Mem), e 3 = (.int .i64 q.1) → zci (e 7) m 7 11 (zar c24) → e 12 = (dSl zap c15) → e 13 = (.int .i64 c16) → e 14 = (.int .i64 c17) → e 25 = (dSl zar c18) → e 26 = (.int .i64 c19) → e 27 = (.int .i64 c20) → K (.exit 4) ⟨e, m⟩ = R
noncomputable def zsv : Code := zbq f56 [1, 1, 0, 1, 0, 0, 1, 1, 0, 0, 1, 1, 1, 0, 0, 1, 1, 0, 0, 1, 0, 1, 0, 0]
theorem zli {c15 : Sl zal} {c16 : Int} {c17 : Int} {c18 : Sl zai} {c19 : Int} {c20 : Int} {c21 : Sl (Sl zal)} {c22 : Int} {c24 : zai} {sz : Nat} (hg : zPD sz) {kk : Nat} : ∀ {k : Nat} {s14 : Int} {s23 : Int} {out : Out (Int) (Int × Int)}, zcM c15 c16 c17 c18 c19 c20 c21 c22 c24 sz kk k s14 s23 = some out → ∃ N, ∀ n, N ≤ n → ∀ k, N ≤ k → ∀ (e : Env) (m : Mem), e 3 = (.int .i64 s14) → zci (e 7) m 7 11 (zar c24) → e 12 = (dSl zap c15) → e 13 = (.int .i64 c16) → e 14 = (.int .i64 c17) → e 25 = (dSl zar c18) → e 26 = (.int .i64 c19) → e 27 = (.int .i64 c20) → e 33 = (dSl (cSl zap) c21) → e 34 = (.int .i64 c22) → e 35 = (.int .i64 s23) → ∀ (K : Ex → St → Option Res) (R : Option Res), zgG c15 c16 c17 c18 c19 c20 c21 c22 c24 K R out → zcj (zbH cfg (dfn cfg n) n zsv) K k ⟨e, m⟩ = R := by
 have hS := hg
 intro k
 induction k with
 | zero => intro s14 s23 out h; cases h
 | succ k ih => ?_
 intro s14 s23 out h
 have ih := fun x0 x1 {out} => @ih x0 x1 out
 unfold zcM at h
 have E := evT
 rcases zac h with ⟨h5_, h⟩ | ⟨h5_, h⟩
 obtain ⟨y25, h6_, h⟩ := zaa h
 obtain ⟨_, h7_⟩ := zaI h6_
 have h7_ := zax h7_ (cSl zap)
 obtain ⟨_, h8_, h⟩ := zaa h
 have E := E.and (hS y25 (zag h8_))
 rotate_left
 rotate_left
 all_goals
  first | (obtain rfl := Option.some.inj h; refine E.l fun n k x => ?_) | refine E.c (ih _ _ h) fun n k x I => ?_
  intro e m i0 i1 i2 i3 i4 i5 i6 i7 i8 i9 i10 K R hK
  obtain ⟨_, _, _⟩ := i1
  rw [zau]
  conv => lhs; arg 4; whnf
  first | (simp -dsimp -implicitDefEqProofs only [go_sem, *, simprocAttr]; refine zah (I.1 _ _ ?_ ?_ ?_ ?_ ?_ ?_ ?_ ?_ ?_ ?_ ?_ _ _ hK); (iterate 11 (simp -dsimp -implicitDefEqProofs only [go_sem, *, simprocAttr]))) | (simp -dsimp -implicitDefEqProofs only [go_sem, *, simprocAttr]; simp only [zgG] at hK; refine hK _ _ ?_ ?_ ?_ ?_ ?_ ?_ ?_ ?_; (iterate 8 (simp -dsimp -implicitDefEqProofs only [go_sem, *, simprocAttr])))
def zdI (c7 : Sl zal) (c8 : Int) (c9 : Int) (c10 : Sl zai) (c11 : Int) (K : Ex → St → Option Res) (R : Option Res) : Out (Int) (Int × Int) → Prop
 | .ret r => ∀ (e : Env) (m : Mem), e 2 = (.int .i64 r) → K .ret ⟨e, m⟩ = R
 | .done q => ∀ (e : Env) (m : Mem), e 3 = (.int .i64 q.1) → e 12 = (dSl zap c7) → e 13 = (.int .i64 c8) → e 14 = (.int .i64 c9) → K (.exit 2) ⟨e, m⟩ = R
noncomputable def zsw : Code := zbq f56 [1, 1, 0, 1, 0, 0, 1, 1, 0, 0, 1, 1, 1, 0, 0]
theorem zlj {c7 : Sl zal} {c8 : Int} {c9 : Int} {c10 : Sl zai} {c11 : Int} {sz : Nat} (hg : zPD sz) {kk : Nat} : ∀ {k : Nat} {s6 : Int} {s12 : Int} {out : Out (Int) (Int × Int)}, zcN c7 c8 c9 c10 c11 sz kk k s6 s12 = some out → ∃ N, ∀ n, N ≤ n → ∀ k, N ≤ k → ∀ (e : Env) (m : Mem), e 3 = (.int .i64 s6) → e 12 = (dSl zap c7) → e 13 = (.int .i64 c8) → e 14 = (.int .i64 c9) → e 25 = (dSl zar c10) → e 26 = (.int .i64 c11) → e 27 = (.int .i64 s12) → ∀ (K : Ex → St → Option Res) (R : Option Res), zdI c7 c8 c9 c10 c11 K R out → zcj (zbH cfg (dfn cfg n) n zsw) K k ⟨e, m⟩ = R := by
 intro k
 induction k with
 | zero => intro s6 s12 out h; cases h
 | succ k ih => ?_
 intro s6 s12 out h
 have ih := fun x0 x1 {out} => @ih x0 x1 out
 unfold zcN at h
 have E := evT
 rcases zac h with ⟨h9_, h⟩ | ⟨h9_, h⟩
 obtain ⟨y13, h10_, h⟩ := zaa h
 obtain ⟨_, h11_⟩ := zaI h10_
 have h11_ := zax h11_ zar
 rcases zaz h with ⟨r14_, o13_, h⟩ | ⟨q27, o13_, h⟩
 obtain ⟨_, l12_, E⟩ := E.lp (zli hg o13_)
 rotate_left
 obtain ⟨_, l15_, E⟩ := E.lp (zli hg o13_)
 rcases zaz h with ⟨r18_, o17_, h⟩ | ⟨q40, o17_, h⟩
 obtain ⟨_, l16_, E⟩ := E.lp (zlh hg o17_)
 rotate_left
 obtain ⟨_, l19_, E⟩ := E.lp (zlh hg o17_)
 rotate_left
 rotate_left
 all_goals
  first | (obtain rfl := Option.some.inj h; refine E.l fun n k x => ?_) | refine E.c (ih _ _ h) fun n k x I => ?_
  intro e m i0 i1 i2 i3 i4 i5 i6 K R hK
  rw [zau]
  conv => lhs; arg 4; whnf
  first | (have := l12_; simp -dsimp -implicitDefEqProofs only [go_sem, *, simprocAttr]; refine zah (l12_.1 n (by omega) _ _ ?_ ?_ ?_ ?_ ?_ ?_ ?_ ?_ ?_ ?_ ?_ _ _ ?_); (iterate 11 (simp -dsimp -implicitDefEqProofs only [go_sem, *, simprocAttr])); simp only [zgG]; intro e m i0; (try simp -dsimp -implicitDefEqProofs only [go_sem, *, simprocAttr]); simp only [zdI] at hK; refine hK _ _ ?_; simp -dsimp -implicitDefEqProofs only [go_sem, *, simprocAttr]) | (have := l15_; simp -dsimp -implicitDefEqProofs only [go_sem, *, simprocAttr]; refine zah (l15_.1 n (by omega) _ _ ?_ ?_ ?_ ?_ ?_ ?_ ?_ ?_ ?_ ?_ ?_ _ _ ?_); (iterate 11 (simp -dsimp -implicitDefEqProofs only [go_sem, *, simprocAttr])); simp only [zgG]; intro e m i0 i1 i2 i3 i4 i5 i6 i7; obtain ⟨_, _, _⟩ := i1; first | (have := l16_; (try simp -dsimp -implicitDefEqProofs only [go_sem, *, simprocAttr]); refine zah (l16_.1 n (by omega) _ _ ?_ ?_ ?_ ?_ ?_ ?_ ?_ ?_ ?_ ?_ _ _ ?_); (iterate 10 (simp -dsimp -implicitDefEqProofs only [go_sem, *, simprocAttr])); simp only [zgF]; intro e m i0; (try simp -dsimp -implicitDefEqProofs only [go_sem, *, simprocAttr]); simp only [zdI] at hK; refine hK _ _ ?_; simp -dsimp -implicitDefEqProofs only [go_sem, *, simprocAttr]) | (have := l19_; (try simp -dsimp -implicitDefEqProofs only [go_sem, *, simprocAttr]); refine zah (l19_.1 n (by omega) _ _ ?_ ?_ ?_ ?_ ?_ ?_ ?_ ?_ ?_ ?_ _ _ ?_); (iterate 10 (simp -dsimp -implicitDefEqProofs only [go_sem, *, simprocAttr])); simp only [zgF]; intro e m i0 i1 i2 i3 i4 i5 i6; (try simp -dsimp -implicitDefEqProofs only [go_sem, *, simprocAttr]); refine zah (I.1 _ _ ?_ ?_ ?_ ?_ ?_ ?_ ?_ _ _ hK); (iterate 7 (simp -dsimp -implicitDefEqProofs only [go_sem, *, simprocAttr])))) | ((try simp -dsimp -implicitDefEqProofs only [go_sem, *, simprocAttr]); simp only [zdI] at hK; refine hK _ _ ?_ ?_ ?_ ?_; (iterate 4 (simp -dsimp -implicitDefEqProofs only [go_sem, *, simprocAttr])))
def ze3 (c2 : Sl zal) (c3 : Int) (K : Ex → St → Option Res) (R : Option Res) : Out (Int) (Int × Int) → Prop
 | .ret r => ∀ (e : Env) (m : Mem), e 2 = (.int .i64 r) → K .ret ⟨e, m⟩ = R
 | .done q => ∀ (e : Env) (m : Mem), e 3 = (.int .i64 q.1) → K (.exit 0) ⟨e, m⟩ = R
noncomputable def zsx : Code := zbq f56 [1, 1, 0, 1, 0, 0]
theorem zlk {c2 : Sl zal} {c3 : Int} {sz : Nat} (hg : zPD sz) {kk : Nat} : ∀ {k : Nat} {s1 : Int} {s4 : Int} {out : Out (Int) (Int × Int)}, zcO c2 c3 sz kk k s1 s4 = some out → ∃ N, ∀ n, N ≤ n → ∀ k, N ≤ k → ∀ (e : Env) (m : Mem), e 3 = (.int .i64 s1) → e 12 = (dSl zap c2) → e 13 = (.int .i64 c3) → e 14 = (.int .i64 s4) → ∀ (K : Ex → St → Option Res) (R : Option Res), ze3 c2 c3 K R out → zcj (zbH cfg (dfn cfg n) n zsx) K k ⟨e, m⟩ = R := by
 intro k
 induction k with
 | zero => intro s1 s4 out h; cases h
 | succ k ih => ?_
 intro s1 s4 out h
 have ih := fun x0 x1 {out} => @ih x0 x1 out
 unfold zcO at h
 have E := evT
 rcases zac h with ⟨h20_, h⟩ | ⟨h20_, h⟩
 obtain ⟨y5, h21_, h⟩ := zaa h
 obtain ⟨_, h22_⟩ := zaI h21_
 have h22_ := zax h22_ zap
 rcases zaz h with ⟨r25_, o24_, h⟩ | ⟨q41, o24_, h⟩
 obtain ⟨_, l23_, E⟩ := E.lp (zlj hg o24_)
 rotate_left
 obtain ⟨_, l26_, E⟩ := E.lp (zlj hg o24_)
 rotate_left
 rotate_left
 all_goals
  first | (obtain rfl := Option.some.inj h; refine E.l fun n k x => ?_) | refine E.c (ih _ _ h) fun n k x I => ?_
  intro e m i0 i1 i2 i3 K R hK
  rw [zau]
  conv => lhs; arg 4; whnf
  first | (have := l23_; simp -dsimp -implicitDefEqProofs only [go_sem, *, simprocAttr]; refine zah (l23_.1 n (by omega) _ _ ?_ ?_ ?_ ?_ ?_ ?_ ?_ _ _ ?_); (iterate 7 (simp -dsimp -implicitDefEqProofs only [go_sem, *, simprocAttr])); simp only [zdI]; intro e m i0; (try simp -dsimp -implicitDefEqProofs only [go_sem, *, simprocAttr]); simp only [ze3] at hK; refine hK _ _ ?_; simp -dsimp -implicitDefEqProofs only [go_sem, *, simprocAttr]) | (have := l26_; simp -dsimp -implicitDefEqProofs only [go_sem, *, simprocAttr]; refine zah (l26_.1 n (by omega) _ _ ?_ ?_ ?_ ?_ ?_ ?_ ?_ _ _ ?_); (iterate 7 (simp -dsimp -implicitDefEqProofs only [go_sem, *, simprocAttr])); simp only [zdI]; intro e m i0 i1 i2 i3; (try simp -dsimp -implicitDefEqProofs only [go_sem, *, simprocAttr]); refine zah (I.1 _ _ ?_ ?_ ?_ ?_ _ _ hK); (iterate 4 (simp -dsimp -implicitDefEqProofs only [go_sem, *, simprocAttr]))) | ((try simp -dsimp -implicitDefEqProofs only [go_sem, *, simprocAttr]); simp only [ze3] at hK; refine hK _ _ ?_; simp -dsimp -implicitDefEqProofs only [go_sem, *, simprocAttr])
theorem zvG {kk : Nat} {a : (Sl zal)} {sz : Nat} (hg : zPD sz) {r : Int} (h : ziv kk sz a = some r) : Ev cfg 56 [(dSl zap a)] (.int .i64 r) := by
 unfold ziv at h
 have E := evT
 rcases zaz h with ⟨r29_, o28_, h⟩ | ⟨q42, o28_, h⟩
 obtain ⟨_, l27_, E⟩ := E.lp (zlk hg o28_)
 rotate_left
 obtain ⟨_, l30_, E⟩ := E.lp (zlk hg o28_)
 rotate_left
 all_goals
  obtain rfl := Option.some.inj h
  refine E.s fun n x => ?_
  first | (have := l27_; simp -dsimp -implicitDefEqProofs only [go_sem, func56, f56, *, simprocAttr]; refine zah (l27_.1 n (by omega) _ _ ?_ ?_ ?_ ?_ _ _ ?_); (iterate 4 (simp -dsimp -implicitDefEqProofs only [go_sem, *, simprocAttr])); simp only [ze3]; intro e m i0; simp -dsimp -implicitDefEqProofs only [go_sem, func56, f56, *, simprocAttr]) | (have := l30_; simp -dsimp -implicitDefEqProofs only [go_sem, func56, f56, *, simprocAttr]; refine zah (l30_.1 n (by omega) _ _ ?_ ?_ ?_ ?_ _ _ ?_); (iterate 4 (simp -dsimp -implicitDefEqProofs only [go_sem, *, simprocAttr])); simp only [ze3]; intro e m i0; simp -dsimp -implicitDefEqProofs only [go_sem, func56, f56, *, simprocAttr])
theorem zs7 : ∀ s : Nat, s < big → zPD s := by
 intro s
 induction s with
 | zero => intro _; exact fun _ h => absurd h (by omega)
 | succ s ih =>
   intro hb
   have hg := ih (by omega)
   exact
    fun a h => zvG (sz := s) hg (zsl (kk := s + 1) (sz := s) (by omega) (by omega) (by omega))
theorem zvV (a : (Sl zal)) (h : zak a.l < big - 1) : Ev cfg 56 [(dSl zap a)] (.int .i64 (zlq a)) := (zs7 (big - 1) (by unfold big; omega)) a h
def zfg (c29 : Int) (c31 : Sl zal) (c32 : Int) (c33 : Int) (c34 : Sl zai) (c35 : Int) (c36 : Int) (c37 : Sl zad) (c38 : Int) (K : Ex → St → Option Res) (R : Option Res) : Out (Int) (Int × Int) → Prop
 | .ret r => ∀ (e : Env) (m : Mem), e 2 = (.int .i64 r) → K .ret ⟨e, m⟩ = R
 | .done q => ∀ (e : Env) (m : Mem), e 3 = (.int .i64 c29) → e 8 = (.int .i64 q.1) → e 13 = (dSl zap c31) → e 14 = (.int .i64 c32) → e 15 = (.int .i64 c33) → e 20 = (dSl zar c34) → e 21 = (.int .i64 c35) → e 22 = (.int .i64 c36) → K (.exit 6) ⟨e, m⟩ = R
noncomputable def zpU : Code := zbq f55 [1, 1, 0, 1, 0, 0, 1, 1, 0, 0, 1, 1, 0, 0, 1, 1, 0, 0, 1, 1, 1, 1, 0, 1, 0, 0]
abbrev zPC (sz : Nat) : Prop := (∀ (a : (Sl zal)), zak a.l < sz → Ev cfg 55 [(dSl zap a)] (.int .i64 (zjs a)))
theorem zjF {c29 : Int} {c31 : Sl zal} {c32 : Int} {c33 : Int} {c34 : Sl zai} {c35 : Int} {c36 : Int} {c37 : Sl zad} {c38 : Int} {sz : Nat} (hg : zPC sz) {kk : Nat} : ∀ {k : Nat} {s30 : Int} {s39 : Int} {out : Out (Int) (Int × Int)}, zb9 c29 c31 c32 c33 c34 c35 c36 c37 c38 sz kk k s30 s39 = some out → ∃ N, ∀ n, N ≤ n → ∀ k, N ≤ k → ∀ (e : Env) (m : Mem), e 3 = (.int .i64 c29) → e 8 = (.int .i64 s30) → e 13 = (dSl zap c31) → e 14 = (.int .i64 c32) → e 15 = (.int .i64 c33) → e 20 = (dSl zar c34) → e 21 = (.int .i64 c35) → e 22 = (.int .i64 c36) → e 45 = (dSl zao c37) → e 46 = (.int .i64 c38) → e 47 = (.int .i64 s39) → ∀ (K : Ex → St → Option Res) (R : Option Res), zfg c29 c31 c32 c33 c34 c35 c36 c37 c38 K R out → zcj (zbH cfg (dfn cfg n) n zpU) K k ⟨e, m⟩ = R := by
 have hN := hg
 intro k
 induction k with
 | zero => intro s30 s39 out h; cases h
 | succ k ih => ?_
 intro s30 s39 out h
 have ih := fun x0 x1 {out} => @ih x0 x1 out
 unfold zb9 at h
 have E := evT
 rcases zac h with ⟨h1_, h⟩ | ⟨h1_, h⟩
 obtain ⟨y40, h2_, h⟩ := zaa h
 obtain ⟨_, h3_⟩ := zaI h2_
 have h3_ := zax h3_ zao
 obtain ⟨_, h4_, h⟩ := zaa h
 have E := E.and (hN y40.ann (zag h4_))
 rotate_left
 rotate_left
 all_goals
  first | (obtain rfl := Option.some.inj h; refine E.l fun n k x => ?_) | refine E.c (ih _ _ h) fun n k x I => ?_
  intro e m i0 i1 i2 i3 i4 i5 i6 i7 i8 i9 i10 K R hK
  rw [zau]
  conv => lhs; arg 4; whnf
  first | (simp -dsimp -implicitDefEqProofs only [go_sem, *, simprocAttr]; refine zah (I.1 _ _ ?_ ?_ ?_ ?_ ?_ ?_ ?_ ?_ ?_ ?_ ?_ _ _ hK); (iterate 11 (simp -dsimp -implicitDefEqProofs only [go_sem, *, simprocAttr]))) | (simp -dsimp -implicitDefEqProofs only [go_sem, *, simprocAttr]; simp only [zfg] at hK; refine hK _ _ ?_ ?_ ?_ ?_ ?_ ?_ ?_ ?_; (iterate 8 (simp -dsimp -implicitDefEqProofs only [go_sem, *, simprocAttr])))
def zfh (c14 : Int) (c16 : Sl zal) (c17 : Int) (c18 : Int) (c19 : Sl zai) (c20 : Int) (c21 : Int) (c22 : Sl (Sl zal)) (c23 : Int) (c25 : zai) (K : Ex → St → Option Res) (R : Option Res) : Out (Int) (Int × Int) → Prop
 | .ret r => ∀ (e : Env) (m : Mem), e 2 = (.int .i64 r) → K .ret ⟨e, m⟩ = R
 | .done q => ∀ (e : Env) (m : Mem), e 3 = (.int .i64 c14) → zci (e 7) m 7 11 (zar c25) → e 8 = (.int .i64 q.1) → e 13 = (dSl zap c16) → e 14 = (.int .i64 c17) → e 15 = (.int .i64 c18) → e 20 = (dSl zar c19) → e 21 = (.int .i64 c20) → e 22 = (.int .i64 c21) → K (.exit 4) ⟨e, m⟩ = R
noncomputable def zpV : Code := zbq f55 [1, 1, 0, 1, 0, 0, 1, 1, 0, 0, 1, 1, 0, 0, 1, 1, 0, 0, 1, 1, 1, 0, 1, 0, 0]
theorem zjG {c14 : Int} {c16 : Sl zal} {c17 : Int} {c18 : Int} {c19 : Sl zai} {c20 : Int} {c21 : Int} {c22 : Sl (Sl zal)} {c23 : Int} {c25 : zai} {sz : Nat} (hg : zPC sz) {kk : Nat} : ∀ {k : Nat} {s15 : Int} {s24 : Int} {out : Out (Int) (Int × Int)}, zbT c14 c16 c17 c18 c19 c20 c21 c22 c23 c25 sz kk k s15 s24 = some out → ∃ N, ∀ n, N ≤ n → ∀ k, N ≤ k → ∀ (e : Env) (m : Mem), e 3 = (.int .i64 c14) → zci (e 7) m 7 11 (zar c25) → e 8 = (.int .i64 s15) → e 13 = (dSl zap c16) → e 14 = (.int .i64 c17) → e 15 = (.int .i64 c18) → e 20 = (dSl zar c19) → e 21 = (.int .i64 c20) → e 22 = (.int .i64 c21) → e 32 = (dSl (cSl zap) c22) → e 33 = (.int .i64 c23) → e 34 = (.int .i64 s24) → ∀ (K : Ex → St → Option Res) (R : Option Res), zfh c14 c16 c17 c18 c19 c20 c21 c22 c23 c25 K R out → zcj (zbH cfg (dfn cfg n) n zpV) K k ⟨e, m⟩ = R := by
 have hN := hg
 intro k
 induction k with
 | zero => intro s15 s24 out h; cases h
 | succ k ih => ?_
 intro s15 s24 out h
 have ih := fun x0 x1 {out} => @ih x0 x1 out
 unfold zbT at h
 have E := evT
 rcases zac h with ⟨h5_, h⟩ | ⟨h5_, h⟩
 obtain ⟨y26, h6_, h⟩ := zaa h
 obtain ⟨_, h7_⟩ := zaI h6_
 have h7_ := zax h7_ (cSl zap)
 obtain ⟨_, h8_, h⟩ := zaa h
 have E := E.and (hN y26 (zag h8_))
 rotate_left
 rotate_left
 all_goals
  first | (obtain rfl := Option.some.inj h; refine E.l fun n k x => ?_) | refine E.c (ih _ _ h) fun n k x I => ?_
  intro e m i0 i1 i2 i3 i4 i5 i6 i7 i8 i9 i10 i11 K R hK
  obtain ⟨_, _, _⟩ := i1
  rw [zau]
  conv => lhs; arg 4; whnf
  first | (simp -dsimp -implicitDefEqProofs only [go_sem, *, simprocAttr]; refine zah (I.1 _ _ ?_ ?_ ?_ ?_ ?_ ?_ ?_ ?_ ?_ ?_ ?_ ?_ _ _ hK); (iterate 12 (simp -dsimp -implicitDefEqProofs only [go_sem, *, simprocAttr]))) | (simp -dsimp -implicitDefEqProofs only [go_sem, *, simprocAttr]; simp only [zfh] at hK; refine hK _ _ ?_ ?_ ?_ ?_ ?_ ?_ ?_ ?_ ?_; (iterate 9 (simp -dsimp -implicitDefEqProofs only [go_sem, *, simprocAttr])))
def zcT (c7 : Sl zal) (c8 : Int) (c9 : Int) (c10 : Sl zai) (c11 : Int) (K : Ex → St → Option Res) (R : Option Res) : Out (Int) (Int × Int) → Prop
 | .ret r => ∀ (e : Env) (m : Mem), e 2 = (.int .i64 r) → K .ret ⟨e, m⟩ = R
 | .done q => ∀ (e : Env) (m : Mem), e 3 = (.int .i64 q.1) → e 13 = (dSl zap c7) → e 14 = (.int .i64 c8) → e 15 = (.int .i64 c9) → K (.exit 2) ⟨e, m⟩ = R
noncomputable def zpW : Code := zbq f55 [1, 1, 0, 1, 0, 0, 1, 1, 0, 0, 1, 1, 0, 0]
theorem zjH {c7 : Sl zal} {c8 : Int} {c9 : Int} {c10 : Sl zai} {c11 : Int} {sz : Nat} (hg : zPC sz) {kk : Nat} : ∀ {k : Nat} {s6 : Int} {s12 : Int} {out : Out (Int) (Int × Int)}, zbU c7 c8 c9 c10 c11 sz kk k s6 s12 = some out → ∃ N, ∀ n, N ≤ n → ∀ k, N ≤ k → ∀ (e : Env) (m : Mem), e 3 = (.int .i64 s6) → e 13 = (dSl zap c7) → e 14 = (.int .i64 c8) → e 15 = (.int .i64 c9) → e 20 = (dSl zar c10) → e 21 = (.int .i64 c11) → e 22 = (.int .i64 s12) → ∀ (K : Ex → St → Option Res) (R : Option Res), zcT c7 c8 c9 c10 c11 K R out → zcj (zbH cfg (dfn cfg n) n zpW) K k ⟨e, m⟩ = R := by
 intro k
 induction k with
 | zero => intro s6 s12 out h; cases h
 | succ k ih => ?_
 intro s6 s12 out h
 have ih := fun x0 x1 {out} => @ih x0 x1 out
 unfold zbU at h
 have E := evT
 rcases zac h with ⟨h9_, h⟩ | ⟨h9_, h⟩
 obtain ⟨y13, h10_, h⟩ := zaa h
 obtain ⟨_, h11_⟩ := zaI h10_
 have h11_ := zax h11_ zar
 rcases zac h with ⟨h12_, h⟩ | ⟨h12_, h⟩
 rotate_left
 rcases zaz h with ⟨r15_, o14_, h⟩ | ⟨q28, o14_, h⟩
 obtain ⟨_, l13_, E⟩ := E.lp (zjG hg o14_)
 rotate_left
 obtain ⟨_, l16_, E⟩ := E.lp (zjG hg o14_)
 rcases zaz h with ⟨r19_, o18_, h⟩ | ⟨q42, o18_, h⟩
 obtain ⟨_, l17_, E⟩ := E.lp (zjF hg o18_)
 rotate_left
 obtain ⟨_, l20_, E⟩ := E.lp (zjF hg o18_)
 rotate_left
 rotate_left
 all_goals
  first | (obtain rfl := Option.some.inj h; refine E.l fun n k x => ?_) | refine E.c (ih _ _ h) fun n k x I => ?_
  intro e m i0 i1 i2 i3 i4 i5 i6 K R hK
  rw [zau]
  conv => lhs; arg 4; whnf
  first | (have := l13_; simp -dsimp -implicitDefEqProofs only [go_sem, *, simprocAttr]; refine zah (l13_.1 n (by omega) _ _ ?_ ?_ ?_ ?_ ?_ ?_ ?_ ?_ ?_ ?_ ?_ ?_ _ _ ?_); (iterate 12 (simp -dsimp -implicitDefEqProofs only [go_sem, *, simprocAttr])); simp only [zfh]; intro e m i0; (try simp -dsimp -implicitDefEqProofs only [go_sem, *, simprocAttr]); simp only [zcT] at hK; refine hK _ _ ?_; simp -dsimp -implicitDefEqProofs only [go_sem, *, simprocAttr]) | (have := l16_; simp -dsimp -implicitDefEqProofs only [go_sem, *, simprocAttr]; refine zah (l16_.1 n (by omega) _ _ ?_ ?_ ?_ ?_ ?_ ?_ ?_ ?_ ?_ ?_ ?_ ?_ _ _ ?_); (iterate 12 (simp -dsimp -implicitDefEqProofs only [go_sem, *, simprocAttr])); simp only [zfh]; intro e m i0 i1 i2 i3 i4 i5 i6 i7 i8; obtain ⟨_, _, _⟩ := i1; first | (have := l17_; (try simp -dsimp -implicitDefEqProofs only [go_sem, *, simprocAttr]); refine zah (l17_.1 n (by omega) _ _ ?_ ?_ ?_ ?_ ?_ ?_ ?_ ?_ ?_ ?_ ?_ _ _ ?_); (iterate 11 (simp -dsimp -implicitDefEqProofs only [go_sem, *, simprocAttr])); simp only [zfg]; intro e m i0; (try simp -dsimp -implicitDefEqProofs only [go_sem, *, simprocAttr]); simp only [zcT] at hK; refine hK _ _ ?_; simp -dsimp -implicitDefEqProofs only [go_sem, *, simprocAttr]) | (have := l20_; (try simp -dsimp -implicitDefEqProofs only [go_sem, *, simprocAttr]); refine zah (l20_.1 n (by omega) _ _ ?_ ?_ ?_ ?_ ?_ ?_ ?_ ?_ ?_ ?_ ?_ _ _ ?_); (iterate 11 (simp -dsimp -implicitDefEqProofs only [go_sem, *, simprocAttr])); simp only [zfg]; intro e m i0 i1 i2 i3 i4 i5 i6 i7; (try simp -dsimp -implicitDefEqProofs only [go_sem, *, simprocAttr]); refine zah (I.1 _ _ ?_ ?_ ?_ ?_ ?_ ?_ ?_ _ _ hK); (iterate 7 (simp -dsimp -implicitDefEqProofs only [go_sem, *, simprocAttr])))) | ((try simp -dsimp -implicitDefEqProofs only [go_sem, *, simprocAttr]); refine zah (I.1 _ _ ?_ ?_ ?_ ?_ ?_ ?_ ?_ _ _ hK); (iterate 7 (simp -dsimp -implicitDefEqProofs only [go_sem, *, simprocAttr]))) | ((try simp -dsimp -implicitDefEqProofs only [go_sem, *, simprocAttr]); simp only [zcT] at hK; refine hK _ _ ?_ ?_ ?_ ?_; (iterate 4 (simp -dsimp -implicitDefEqProofs only [go_sem, *, simprocAttr])))
def zdC (c2 : Sl zal) (c3 : Int) (K : Ex → St → Option Res) (R : Option Res) : Out (Int) (Int × Int) → Prop
 | .ret r => ∀ (e : Env) (m : Mem), e 2 = (.int .i64 r) → K .ret ⟨e, m⟩ = R
 | .done q => ∀ (e : Env) (m : Mem), e 3 = (.int .i64 q.1) → K (.exit 0) ⟨e, m⟩ = R
noncomputable def zpX : Code := zbq f55 [1, 1, 0, 1, 0, 0]
theorem zjI {c2 : Sl zal} {c3 : Int} {sz : Nat} (hg : zPC sz) {kk : Nat} : ∀ {k : Nat} {s1 : Int} {s4 : Int} {out : Out (Int) (Int × Int)}, zca c2 c3 sz kk k s1 s4 = some out → ∃ N, ∀ n, N ≤ n → ∀ k, N ≤ k → ∀ (e : Env) (m : Mem), e 3 = (.int .i64 s1) → e 13 = (dSl zap c2) → e 14 = (.int .i64 c3) → e 15 = (.int .i64 s4) → ∀ (K : Ex → St → Option Res) (R : Option Res), zdC c2 c3 K R out → zcj (zbH cfg (dfn cfg n) n zpX) K k ⟨e, m⟩ = R := by
 intro k
 induction k with
 | zero => intro s1 s4 out h; cases h
 | succ k ih => ?_
 intro s1 s4 out h
 have ih := fun x0 x1 {out} => @ih x0 x1 out
 unfold zca at h
 have E := evT
 rcases zac h with ⟨h21_, h⟩ | ⟨h21_, h⟩
 obtain ⟨y5, h22_, h⟩ := zaa h
 obtain ⟨_, h23_⟩ := zaI h22_
 have h23_ := zax h23_ zap
 rcases zaz h with ⟨r26_, o25_, h⟩ | ⟨q43, o25_, h⟩
 obtain ⟨_, l24_, E⟩ := E.lp (zjH hg o25_)
 rotate_left
 obtain ⟨_, l27_, E⟩ := E.lp (zjH hg o25_)
 rotate_left
 rotate_left
 all_goals
  first | (obtain rfl := Option.some.inj h; refine E.l fun n k x => ?_) | refine E.c (ih _ _ h) fun n k x I => ?_
  intro e m i0 i1 i2 i3 K R hK
  rw [zau]
  conv => lhs; arg 4; whnf
  first | (have := l24_; simp -dsimp -implicitDefEqProofs only [go_sem, *, simprocAttr]; refine zah (l24_.1 n (by omega) _ _ ?_ ?_ ?_ ?_ ?_ ?_ ?_ _ _ ?_); (iterate 7 (simp -dsimp -implicitDefEqProofs only [go_sem, *, simprocAttr])); simp only [zcT]; intro e m i0; (try simp -dsimp -implicitDefEqProofs only [go_sem, *, simprocAttr]); simp only [zdC] at hK; refine hK _ _ ?_; simp -dsimp -implicitDefEqProofs only [go_sem, *, simprocAttr]) | (have := l27_; simp -dsimp -implicitDefEqProofs only [go_sem, *, simprocAttr]; refine zah (l27_.1 n (by omega) _ _ ?_ ?_ ?_ ?_ ?_ ?_ ?_ _ _ ?_); (iterate 7 (simp -dsimp -implicitDefEqProofs only [go_sem, *, simprocAttr])); simp only [zcT]; intro e m i0 i1 i2 i3; (try simp -dsimp -implicitDefEqProofs only [go_sem, *, simprocAttr]); refine zah (I.1 _ _ ?_ ?_ ?_ ?_ _ _ hK); (iterate 4 (simp -dsimp -implicitDefEqProofs only [go_sem, *, simprocAttr]))) | ((try simp -dsimp -implicitDefEqProofs only [go_sem, *, simprocAttr]); simp only [zdC] at hK; refine hK _ _ ?_; simp -dsimp -implicitDefEqProofs only [go_sem, *, simprocAttr])
theorem zsa {kk : Nat} {a : (Sl zal)} {sz : Nat} (hg : zPC sz) {r : Int} (h : zgK kk sz a = some r) : Ev cfg 55 [(dSl zap a)] (.int .i64 r) := by
 unfold zgK at h
 have E := evT
 rcases zaz h with ⟨r30_, o29_, h⟩ | ⟨q44, o29_, h⟩
 obtain ⟨_, l28_, E⟩ := E.lp (zjI hg o29_)
 rotate_left
 obtain ⟨_, l31_, E⟩ := E.lp (zjI hg o29_)
 rotate_left
 all_goals
  obtain rfl := Option.some.inj h
  refine E.s fun n x => ?_
  first | (have := l28_; simp -dsimp -implicitDefEqProofs only [go_sem, func55, f55, *, simprocAttr]; refine zah (l28_.1 n (by omega) _ _ ?_ ?_ ?_ ?_ _ _ ?_); (iterate 4 (simp -dsimp -implicitDefEqProofs only [go_sem, *, simprocAttr])); simp only [zdC]; intro e m i0; simp -dsimp -implicitDefEqProofs only [go_sem, func55, f55, *, simprocAttr]) | (have := l31_; simp -dsimp -implicitDefEqProofs only [go_sem, func55, f55, *, simprocAttr]; refine zah (l31_.1 n (by omega) _ _ ?_ ?_ ?_ ?_ _ _ ?_); (iterate 4 (simp -dsimp -implicitDefEqProofs only [go_sem, *, simprocAttr])); simp only [zdC]; intro e m i0; simp -dsimp -implicitDefEqProofs only [go_sem, func55, f55, *, simprocAttr])
theorem zqh : ∀ s : Nat, s < big → zPC s := by
 intro s
 induction s with
 | zero => intro _; exact fun _ h => absurd h (by omega)
 | succ s ih =>
   intro hb
   have hg := ih (by omega)
   exact
    fun a h => zsa (sz := s) hg (zpK (kk := s + 1) (sz := s) (by omega) (by omega) (by omega))
theorem zso (a : (Sl zal)) (h : zak a.l < big - 1) : Ev cfg 55 [(dSl zap a)] (.int .i64 (zjs a)) := (zqh (big - 1) (by unfold big; omega)) a h
def zlz (c19 : Sl zal) (c21 : Int) (c22 : Int) (c24 : zan) (K : Ex → St → Option Res) (R : Option Res) : Out (Int) (Int × Int) → Prop
 | .ret r => ∀ (e : Env) (m : Mem), e 2 = (.int .i64 r) → K .ret ⟨e, m⟩ = R
 | .done q => ∀ (e : Env) (m : Mem), e 0 = (dSl zap c19) → e 3 = (.int .i64 q.1) → e 4 = (.int .i64 c21) → e 5 = (.int .i64 c22) → K (.exit 6) ⟨e, m⟩ = R
noncomputable def zB8 : Code := zbq f94 [1, 1, 0, 1, 0, 0, 1, 0, 0, 1, 1, 0, 0, 1, 0, 0, 1, 1, 1, 1, 0, 0]
abbrev zPB (sz : Nat) : Prop := (∀ (a : (Sl zal)), zak a.l < sz → Ev cfg 94 [(dSl zap a)] (.int .i64 (zlq a)))
theorem zuu {c19 : Sl zal} {c21 : Int} {c22 : Int} {c24 : zan} {sz : Nat} (hg : zPB sz) {kk : Nat} : ∀ {k : Nat} {s20 : Int} {s23 : Int} {out : Out (Int) (Int × Int)}, zgY c19 c21 c22 c24 sz kk k s20 s23 = some out → ∃ N, ∀ n, N ≤ n → ∀ k, N ≤ k → ∀ (e : Env) (m : Mem), e 0 = (dSl zap c19) → e 3 = (.int .i64 s20) → e 4 = (.int .i64 c21) → e 5 = (.int .i64 c22) → zci (e 6) m 6 10 (zbj c24) → e 8 = (.int .i64 s23) → ∀ (K : Ex → St → Option Res) (R : Option Res), zlz c19 c21 c22 c24 K R out → zcj (zbH cfg (dfn cfg n) n zB8) K k ⟨e, m⟩ = R := by
 have hS := hg
 intro k
 induction k with
 | zero => intro s20 s23 out h; cases h
 | succ k ih => ?_
 intro s20 s23 out h
 have ih := fun x0 x1 {out} => @ih x0 x1 out
 unfold zgY at h
 have E := evT
 rcases zac h with ⟨h1_, h⟩ | ⟨h1_, h⟩
 obtain ⟨y25, h2_, h⟩ := zaa h
 obtain ⟨_, h3_⟩ := zaI h2_
 have h3_ := zax h3_ zao
 obtain ⟨_, h4_, h⟩ := zaa h
 have E := E.and (hS y25.ann (zag h4_))
 rotate_left
 rotate_left
 all_goals
  first | (obtain rfl := Option.some.inj h; refine E.l fun n k x => ?_) | refine E.c (ih _ _ h) fun n k x I => ?_
  intro e m i0 i1 i2 i3 i4 i5 K R hK
  obtain ⟨_, _, _⟩ := i4
  rw [zau]
  conv => lhs; arg 4; whnf
  first | (simp -dsimp -implicitDefEqProofs only [go_sem, *, simprocAttr]; refine zah (I.1 _ _ ?_ ?_ ?_ ?_ ?_ ?_ _ _ hK); (iterate 6 (simp -dsimp -implicitDefEqProofs only [go_sem, *, simprocAttr]))) | (simp -dsimp -implicitDefEqProofs only [go_sem, *, simprocAttr]; simp only [zlz] at hK; refine hK _ _ ?_ ?_ ?_ ?_; (iterate 4 (simp -dsimp -implicitDefEqProofs only [go_sem, *, simprocAttr])))
def zlA (c10 : Sl zal) (c12 : Int) (c13 : Int) (c15 : zan) (K : Ex → St → Option Res) (R : Option Res) : Out (Int) (Int × Int) → Prop
 | .ret r => ∀ (e : Env) (m : Mem), e 2 = (.int .i64 r) → K .ret ⟨e, m⟩ = R
 | .done q => ∀ (e : Env) (m : Mem), e 0 = (dSl zap c10) → e 3 = (.int .i64 q.1) → e 4 = (.int .i64 c12) → e 5 = (.int .i64 c13) → zci (e 6) m 6 10 (zbj c15) → K (.exit 4) ⟨e, m⟩ = R
noncomputable def zB9 : Code := zbq f94 [1, 1, 0, 1, 0, 0, 1, 0, 0, 1, 1, 0, 0, 1, 0, 0, 1, 1, 0, 1, 0, 0]
theorem zuv {c10 : Sl zal} {c12 : Int} {c13 : Int} {c15 : zan} {sz : Nat} (hg : zPB sz) {kk : Nat} : ∀ {k : Nat} {s11 : Int} {s14 : Int} {out : Out (Int) (Int × Int)}, zgZ c10 c12 c13 c15 sz kk k s11 s14 = some out → ∃ N, ∀ n, N ≤ n → ∀ k, N ≤ k → ∀ (e : Env) (m : Mem), e 0 = (dSl zap c10) → e 3 = (.int .i64 s11) → e 4 = (.int .i64 c12) → e 5 = (.int .i64 c13) → zci (e 6) m 6 10 (zbj c15) → e 7 = (.int .i64 s14) → ∀ (K : Ex → St → Option Res) (R : Option Res), zlA c10 c12 c13 c15 K R out → zcj (zbH cfg (dfn cfg n) n zB9) K k ⟨e, m⟩ = R := by
 have hS := hg
 intro k
 induction k with
 | zero => intro s11 s14 out h; cases h
 | succ k ih => ?_
 intro s11 s14 out h
 have ih := fun x0 x1 {out} => @ih x0 x1 out
 unfold zgZ at h
 have E := evT
 rcases zac h with ⟨h5_, h⟩ | ⟨h5_, h⟩
 obtain ⟨y16, h6_, h⟩ := zaa h
 obtain ⟨_, h7_⟩ := zaI h6_
 have h7_ := zax h7_ (cSl zap)
 obtain ⟨_, h8_, h⟩ := zaa h
 have E := E.and (hS y16 (zag h8_))
 rotate_left
 rotate_left
 all_goals
  first | (obtain rfl := Option.some.inj h; refine E.l fun n k x => ?_) | refine E.c (ih _ _ h) fun n k x I => ?_
  intro e m i0 i1 i2 i3 i4 i5 K R hK
  obtain ⟨_, _, _⟩ := i4
  rw [zau]
  conv => lhs; arg 4; whnf
  first | (simp -dsimp -implicitDefEqProofs only [go_sem, *, simprocAttr]; refine zah (I.1 _ _ ?_ ?_ ?_ ?_ ?_ ?_ _ _ hK); (iterate 6 (simp -dsimp -implicitDefEqProofs only [go_sem, *, simprocAttr]))) | (simp -dsimp -implicitDefEqProofs only [go_sem, *, simprocAttr]; simp only [zlA] at hK; refine hK _ _ ?_ ?_ ?_ ?_ ?_; (iterate 5 (simp -dsimp -implicitDefEqProofs only [go_sem, *, simprocAttr])))
def zin (c4 : Sl zal) (c6 : Int) (K : Ex → St → Option Res) (R : Option Res) : Out (Int) (Int × Int) → Prop
 | .ret r => ∀ (e : Env) (m : Mem), e 2 = (.int .i64 r) → K .ret ⟨e, m⟩ = R
 | .done q => ∀ (e : Env) (m : Mem), e 0 = (dSl zap c4) → e 3 = (.int .i64 q.1) → e 4 = (.int .i64 c6) → K (.exit 2) ⟨e, m⟩ = R
noncomputable def zCa : Code := zbq f94 [1, 1, 0, 1, 0, 0, 1, 0, 0, 1, 1, 0, 0]
theorem zuw {c4 : Sl zal} {c6 : Int} {sz : Nat} (hg : zPB sz) {kk : Nat} : ∀ {k : Nat} {s5 : Int} {s7 : Int} {out : Out (Int) (Int × Int)}, zg0 c4 c6 sz kk k s5 s7 = some out → ∃ N, ∀ n, N ≤ n → ∀ k, N ≤ k → ∀ (e : Env) (m : Mem), e 0 = (dSl zap c4) → e 3 = (.int .i64 s5) → e 4 = (.int .i64 c6) → e 5 = (.int .i64 s7) → ∀ (K : Ex → St → Option Res) (R : Option Res), zin c4 c6 K R out → zcj (zbH cfg (dfn cfg n) n zCa) K k ⟨e, m⟩ = R := by
 intro k
 induction k with
 | zero => intro s5 s7 out h; cases h
 | succ k ih => ?_
 intro s5 s7 out h
 have ih := fun x0 x1 {out} => @ih x0 x1 out
 unfold zg0 at h
 have E := evT
 obtain ⟨y8, h9_, h⟩ := zaa h
 obtain ⟨_, h10_⟩ := zaI h9_
 have h10_ := zax h10_ zap
 rcases zac h with ⟨h11_, h⟩ | ⟨h11_, h⟩
 obtain ⟨y9, h12_, h⟩ := zaa h
 obtain ⟨_, h13_⟩ := zaI h12_
 have h13_ := zax h13_ zar
 rcases zaz h with ⟨r16_, o15_, h⟩ | ⟨q18, o15_, h⟩
 obtain ⟨_, l14_, E⟩ := E.lp (zuv hg o15_)
 rotate_left
 obtain ⟨_, l17_, E⟩ := E.lp (zuv hg o15_)
 rcases zaz h with ⟨r20_, o19_, h⟩ | ⟨q27, o19_, h⟩
 obtain ⟨_, l18_, E⟩ := E.lp (zuu hg o19_)
 rotate_left
 obtain ⟨_, l21_, E⟩ := E.lp (zuu hg o19_)
 rotate_left
 rotate_left
 all_goals
  first | (obtain rfl := Option.some.inj h; refine E.l fun n k x => ?_) | refine E.c (ih _ _ h) fun n k x I => ?_
  intro e m i0 i1 i2 i3 K R hK
  rw [zau]
  conv => lhs; arg 4; whnf
  first | (have := l14_; simp -dsimp -implicitDefEqProofs only [go_sem, *, simprocAttr]; refine zah (l14_.1 n (by omega) _ _ ?_ ?_ ?_ ?_ ?_ ?_ _ _ ?_); (iterate 6 (simp -dsimp -implicitDefEqProofs only [go_sem, *, simprocAttr])); simp only [zlA]; intro e m i0; (try simp -dsimp -implicitDefEqProofs only [go_sem, *, simprocAttr]); simp only [zin] at hK; refine hK _ _ ?_; simp -dsimp -implicitDefEqProofs only [go_sem, *, simprocAttr]) | (have := l17_; simp -dsimp -implicitDefEqProofs only [go_sem, *, simprocAttr]; refine zah (l17_.1 n (by omega) _ _ ?_ ?_ ?_ ?_ ?_ ?_ _ _ ?_); (iterate 6 (simp -dsimp -implicitDefEqProofs only [go_sem, *, simprocAttr])); simp only [zlA]; intro e m i0 i1 i2 i3 i4; obtain ⟨_, _, _⟩ := i4; first | (have := l18_; (try simp -dsimp -implicitDefEqProofs only [go_sem, *, simprocAttr]); refine zah (l18_.1 n (by omega) _ _ ?_ ?_ ?_ ?_ ?_ ?_ _ _ ?_); (iterate 6 (simp -dsimp -implicitDefEqProofs only [go_sem, *, simprocAttr])); simp only [zlz]; intro e m i0; (try simp -dsimp -implicitDefEqProofs only [go_sem, *, simprocAttr]); simp only [zin] at hK; refine hK _ _ ?_; simp -dsimp -implicitDefEqProofs only [go_sem, *, simprocAttr]) | (have := l21_; (try simp -dsimp -implicitDefEqProofs only [go_sem, *, simprocAttr]); refine zah (l21_.1 n (by omega) _ _ ?_ ?_ ?_ ?_ ?_ ?_ _ _ ?_); (iterate 6 (simp -dsimp -implicitDefEqProofs only [go_sem, *, simprocAttr])); simp only [zlz]; intro e m i0 i1 i2 i3; (try simp -dsimp -implicitDefEqProofs only [go_sem, *, simprocAttr]); refine zah (I.1 _ _ ?_ ?_ ?_ ?_ _ _ hK); (iterate 4 (simp -dsimp -implicitDefEqProofs only [go_sem, *, simprocAttr])))) | ((try simp -dsimp -implicitDefEqProofs only [go_sem, *, simprocAttr]); simp only [zin] at hK; refine hK _ _ ?_ ?_ ?_; (iterate 3 (simp -dsimp -implicitDefEqProofs only [go_sem, *, simprocAttr])))
def zjO (c1 : Sl zal) (K : Ex → St → Option Res) (R : Option Res) : Out (Int) (Int × Int) → Prop
 | .ret r => ∀ (e : Env) (m : Mem), e 2 = (.int .i64 r) → K .ret ⟨e, m⟩ = R
 | .done q => ∀ (e : Env) (m : Mem), e 3 = (.int .i64 q.1) → K (.exit 0) ⟨e, m⟩ = R
noncomputable def zCb : Code := zbq f94 [1, 1, 0, 1, 0, 0]
theorem zux {c1 : Sl zal} {sz : Nat} (hg : zPB sz) {kk : Nat} : ∀ {k : Nat} {s2 : Int} {s3 : Int} {out : Out (Int) (Int × Int)}, zg1 c1 sz kk k s2 s3 = some out → ∃ N, ∀ n, N ≤ n → ∀ k, N ≤ k → ∀ (e : Env) (m : Mem), e 0 = (dSl zap c1) → e 3 = (.int .i64 s2) → e 4 = (.int .i64 s3) → ∀ (K : Ex → St → Option Res) (R : Option Res), zjO c1 K R out → zcj (zbH cfg (dfn cfg n) n zCb) K k ⟨e, m⟩ = R := by
 intro k
 induction k with
 | zero => intro s2 s3 out h; cases h
 | succ k ih => ?_
 intro s2 s3 out h
 have ih := fun x0 x1 {out} => @ih x0 x1 out
 unfold zg1 at h
 have E := evT
 rcases zac h with ⟨h22_, h⟩ | ⟨h22_, h⟩
 rcases zaz h with ⟨r25_, o24_, h⟩ | ⟨q28, o24_, h⟩
 obtain ⟨_, l23_, E⟩ := E.lp (zuw hg o24_)
 rotate_left
 obtain ⟨_, l26_, E⟩ := E.lp (zuw hg o24_)
 rotate_left
 rotate_left
 all_goals
  first | (obtain rfl := Option.some.inj h; refine E.l fun n k x => ?_) | refine E.c (ih _ _ h) fun n k x I => ?_
  intro e m i0 i1 i2 K R hK
  rw [zau]
  conv => lhs; arg 4; whnf
  first | (have := l23_; simp -dsimp -implicitDefEqProofs only [go_sem, *, simprocAttr]; refine zah (l23_.1 n (by omega) _ _ ?_ ?_ ?_ ?_ _ _ ?_); (iterate 4 (simp -dsimp -implicitDefEqProofs only [go_sem, *, simprocAttr])); simp only [zin]; intro e m i0; (try simp -dsimp -implicitDefEqProofs only [go_sem, *, simprocAttr]); simp only [zjO] at hK; refine hK _ _ ?_; simp -dsimp -implicitDefEqProofs only [go_sem, *, simprocAttr]) | (have := l26_; simp -dsimp -implicitDefEqProofs only [go_sem, *, simprocAttr]; refine zah (l26_.1 n (by omega) _ _ ?_ ?_ ?_ ?_ _ _ ?_); (iterate 4 (simp -dsimp -implicitDefEqProofs only [go_sem, *, simprocAttr])); simp only [zin]; intro e m i0 i1 i2; (try simp -dsimp -implicitDefEqProofs only [go_sem, *, simprocAttr]); refine zah (I.1 _ _ ?_ ?_ ?_ _ _ hK); (iterate 3 (simp -dsimp -implicitDefEqProofs only [go_sem, *, simprocAttr]))) | ((try simp -dsimp -implicitDefEqProofs only [go_sem, *, simprocAttr]); simp only [zjO] at hK; refine hK _ _ ?_; simp -dsimp -implicitDefEqProofs only [go_sem, *, simprocAttr])
theorem zIg {kk : Nat} {a : (Sl zal)} {sz : Nat} (hg : zPB sz) {r : Int} (h : zr1 kk sz a = some r) : Ev cfg 94 [(dSl zap a)] (.int .i64 r) := by
 unfold zr1 at h
 have E := evT
 rcases zaz h with ⟨r29_, o28_, h⟩ | ⟨q29, o28_, h⟩
 obtain ⟨_, l27_, E⟩ := E.lp (zux hg o28_)
 rotate_left
 obtain ⟨_, l30_, E⟩ := E.lp (zux hg o28_)
 rotate_left
 all_goals
  obtain rfl := Option.some.inj h
  refine E.s fun n x => ?_
  first | (have := l27_; simp -dsimp -implicitDefEqProofs only [go_sem, func94, f94, *, simprocAttr]; refine zah (l27_.1 n (by omega) _ _ ?_ ?_ ?_ _ _ ?_); (iterate 3 (simp -dsimp -implicitDefEqProofs only [go_sem, *, simprocAttr])); simp only [zjO]; intro e m i0; simp -dsimp -implicitDefEqProofs only [go_sem, func94, f94, *, simprocAttr]) | (have := l30_; simp -dsimp -implicitDefEqProofs only [go_sem, func94, f94, *, simprocAttr]; refine zah (l30_.1 n (by omega) _ _ ?_ ?_ ?_ _ _ ?_); (iterate 3 (simp -dsimp -implicitDefEqProofs only [go_sem, *, simprocAttr])); simp only [zjO]; intro e m i0; simp -dsimp -implicitDefEqProofs only [go_sem, func94, f94, *, simprocAttr])
theorem zCH : ∀ s : Nat, s < big → zPB s := by
 intro s
 induction s with
 | zero => intro _; exact fun _ h => absurd h (by omega)
 | succ s ih =>
   intro hb
   have hg := ih (by omega)
   exact
    fun a h => zIg (sz := s) hg (zBY (kk := s + 1) (sz := s) (by omega) (by omega) (by omega))
theorem zIm (a : (Sl zal)) (h : zak a.l < big - 1) : Ev cfg 94 [(dSl zap a)] (.int .i64 (zlq a)) := (zCH (big - 1) (by unfold big; omega)) a h
def ziV (c20 : Sl zal) (c21 : Int) (c22 : Int) (c23 : Int) (c26 : zan) (K : Ex → St → Option Res) (R : Option Res) : Out (Int) (Int × Int) → Prop
 | .ret r => ∀ (e : Env) (m : Mem), e 2 = (.int .i64 r) → K .ret ⟨e, m⟩ = R
 | .done q => ∀ (e : Env) (m : Mem), e 0 = (dSl zap c20) → e 3 = (.int .i64 c21) → e 4 = (.int .i64 c22) → e 5 = (.int .i64 c23) → e 7 = (.int .i64 q.1) → K (.exit 6) ⟨e, m⟩ = R
noncomputable def zwQ : Code := zbq f93 [1, 1, 0, 1, 0, 0, 1, 0, 0, 1, 0, 0, 1, 0, 0, 1, 1, 1, 1, 0, 1, 0, 0]
abbrev zPA (sz : Nat) : Prop := (∀ (a : (Sl zal)), zak a.l < sz → Ev cfg 93 [(dSl zap a)] (.int .i64 (zjs a)))
theorem zp8 {c20 : Sl zal} {c21 : Int} {c22 : Int} {c23 : Int} {c26 : zan} {sz : Nat} (hg : zPA sz) {kk : Nat} : ∀ {k : Nat} {s24 : Int} {s25 : Int} {out : Out (Int) (Int × Int)}, zes c20 c21 c22 c23 c26 sz kk k s24 s25 = some out → ∃ N, ∀ n, N ≤ n → ∀ k, N ≤ k → ∀ (e : Env) (m : Mem), e 0 = (dSl zap c20) → e 3 = (.int .i64 c21) → e 4 = (.int .i64 c22) → e 5 = (.int .i64 c23) → zci (e 6) m 6 10 (zbj c26) → e 7 = (.int .i64 s24) → e 9 = (.int .i64 s25) → ∀ (K : Ex → St → Option Res) (R : Option Res), ziV c20 c21 c22 c23 c26 K R out → zcj (zbH cfg (dfn cfg n) n zwQ) K k ⟨e, m⟩ = R := by
 have hN := hg
 intro k
 induction k with
 | zero => intro s24 s25 out h; cases h
 | succ k ih => ?_
 intro s24 s25 out h
 have ih := fun x0 x1 {out} => @ih x0 x1 out
 unfold zes at h
 have E := evT
 rcases zac h with ⟨h1_, h⟩ | ⟨h1_, h⟩
 obtain ⟨y27, h2_, h⟩ := zaa h
 obtain ⟨_, h3_⟩ := zaI h2_
 have h3_ := zax h3_ zao
 obtain ⟨_, h4_, h⟩ := zaa h
 have E := E.and (hN y27.ann (zag h4_))
 rotate_left
 rotate_left
 all_goals
  first | (obtain rfl := Option.some.inj h; refine E.l fun n k x => ?_) | refine E.c (ih _ _ h) fun n k x I => ?_
  intro e m i0 i1 i2 i3 i4 i5 i6 K R hK
  obtain ⟨_, _, _⟩ := i4
  rw [zau]
  conv => lhs; arg 4; whnf
  first | (simp -dsimp -implicitDefEqProofs only [go_sem, *, simprocAttr]; refine zah (I.1 _ _ ?_ ?_ ?_ ?_ ?_ ?_ ?_ _ _ hK); (iterate 7 (simp -dsimp -implicitDefEqProofs only [go_sem, *, simprocAttr]))) | (simp -dsimp -implicitDefEqProofs only [go_sem, *, simprocAttr]; simp only [ziV] at hK; refine hK _ _ ?_ ?_ ?_ ?_ ?_; (iterate 5 (simp -dsimp -implicitDefEqProofs only [go_sem, *, simprocAttr])))
def ziW (c10 : Sl zal) (c11 : Int) (c12 : Int) (c13 : Int) (c16 : zan) (K : Ex → St → Option Res) (R : Option Res) : Out (Int) (Int × Int) → Prop
 | .ret r => ∀ (e : Env) (m : Mem), e 2 = (.int .i64 r) → K .ret ⟨e, m⟩ = R
 | .done q => ∀ (e : Env) (m : Mem), e 0 = (dSl zap c10) → e 3 = (.int .i64 c11) → e 4 = (.int .i64 c12) → e 5 = (.int .i64 c13) → zci (e 6) m 6 10 (zbj c16) → e 7 = (.int .i64 q.1) → K (.exit 4) ⟨e, m⟩ = R
noncomputable def zwR : Code := zbq f93 [1, 1, 0, 1, 0, 0, 1, 0, 0, 1, 0, 0, 1, 0, 0, 1, 1, 1, 0, 1, 0, 0]
theorem zp9 {c10 : Sl zal} {c11 : Int} {c12 : Int} {c13 : Int} {c16 : zan} {sz : Nat} (hg : zPA sz) {kk : Nat} : ∀ {k : Nat} {s14 : Int} {s15 : Int} {out : Out (Int) (Int × Int)}, zdE c10 c11 c12 c13 c16 sz kk k s14 s15 = some out → ∃ N, ∀ n, N ≤ n → ∀ k, N ≤ k → ∀ (e : Env) (m : Mem), e 0 = (dSl zap c10) → e 3 = (.int .i64 c11) → e 4 = (.int .i64 c12) → e 5 = (.int .i64 c13) → zci (e 6) m 6 10 (zbj c16) → e 7 = (.int .i64 s14) → e 8 = (.int .i64 s15) → ∀ (K : Ex → St → Option Res) (R : Option Res), ziW c10 c11 c12 c13 c16 K R out → zcj (zbH cfg (dfn cfg n) n zwR) K k ⟨e, m⟩ = R := by
 have hN := hg
 intro k
 induction k with
 | zero => intro s14 s15 out h; cases h
 | succ k ih => ?_
 intro s14 s15 out h
 have ih := fun x0 x1 {out} => @ih x0 x1 out
 unfold zdE at h
 have E := evT
 rcases zac h with ⟨h5_, h⟩ | ⟨h5_, h⟩
 obtain ⟨y17, h6_, h⟩ := zaa h
 obtain ⟨_, h7_⟩ := zaI h6_
 have h7_ := zax h7_ (cSl zap)
 obtain ⟨_, h8_, h⟩ := zaa h
 have E := E.and (hN y17 (zag h8_))
 rotate_left
 rotate_left
 all_goals
  first | (obtain rfl := Option.some.inj h; refine E.l fun n k x => ?_) | refine E.c (ih _ _ h) fun n k x I => ?_
  intro e m i0 i1 i2 i3 i4 i5 i6 K R hK
  obtain ⟨_, _, _⟩ := i4
  rw [zau]
  conv => lhs; arg 4; whnf
  first | (simp -dsimp -implicitDefEqProofs only [go_sem, *, simprocAttr]; refine zah (I.1 _ _ ?_ ?_ ?_ ?_ ?_ ?_ ?_ _ _ hK); (iterate 7 (simp -dsimp -implicitDefEqProofs only [go_sem, *, simprocAttr]))) | (simp -dsimp -implicitDefEqProofs only [go_sem, *, simprocAttr]; simp only [ziW] at hK; refine hK _ _ ?_ ?_ ?_ ?_ ?_ ?_; (iterate 6 (simp -dsimp -implicitDefEqProofs only [go_sem, *, simprocAttr])))
def zf6 (c4 : Sl zal) (c6 : Int) (K : Ex → St → Option Res) (R : Option Res) : Out (Int) (Int × Int) → Prop
 | .ret r => ∀ (e : Env) (m : Mem), e 2 = (.int .i64 r) → K .ret ⟨e, m⟩ = R
 | .done q => ∀ (e : Env) (m : Mem), e 0 = (dSl zap c4) → e 3 = (.int .i64 q.1) → e 4 = (.int .i64 c6) → K (.exit 2) ⟨e, m⟩ = R
noncomputable def zwS : Code := zbq f93 [1, 1, 0, 1, 0, 0, 1, 0, 0, 1, 0, 0]
theorem zqa {c4 : Sl zal} {c6 : Int} {sz : Nat} (hg : zPA sz) {kk : Nat} : ∀ {k : Nat} {s5 : Int} {s7 : Int} {out : Out (Int) (Int × Int)}, zdF c4 c6 sz kk k s5 s7 = some out → ∃ N, ∀ n, N ≤ n → ∀ k, N ≤ k → ∀ (e : Env) (m : Mem), e 0 = (dSl zap c4) → e 3 = (.int .i64 s5) → e 4 = (.int .i64 c6) → e 5 = (.int .i64 s7) → ∀ (K : Ex → St → Option Res) (R : Option Res), zf6 c4 c6 K R out → zcj (zbH cfg (dfn cfg n) n zwS) K k ⟨e, m⟩ = R := by
 intro k
 induction k with
 | zero => intro s5 s7 out h; cases h
 | succ k ih => ?_
 intro s5 s7 out h
 have ih := fun x0 x1 {out} => @ih x0 x1 out
 unfold zdF at h
 have E := evT
 obtain ⟨y8, h9_, h⟩ := zaa h
 obtain ⟨_, h10_⟩ := zaI h9_
 have h10_ := zax h10_ zap
 rcases zac h with ⟨h11_, h⟩ | ⟨h11_, h⟩
 obtain ⟨y9, h12_, h⟩ := zaa h
 obtain ⟨_, h13_⟩ := zaI h12_
 have h13_ := zax h13_ zar
 rcases zac h with ⟨h14_, h⟩ | ⟨h14_, h⟩
 rotate_left
 rcases zaz h with ⟨r17_, o16_, h⟩ | ⟨q19, o16_, h⟩
 obtain ⟨_, l15_, E⟩ := E.lp (zp9 hg o16_)
 rotate_left
 obtain ⟨_, l18_, E⟩ := E.lp (zp9 hg o16_)
 rcases zaz h with ⟨r21_, o20_, h⟩ | ⟨q29, o20_, h⟩
 obtain ⟨_, l19_, E⟩ := E.lp (zp8 hg o20_)
 rotate_left
 obtain ⟨_, l22_, E⟩ := E.lp (zp8 hg o20_)
 rotate_left
 rotate_left
 all_goals
  first | (obtain rfl := Option.some.inj h; refine E.l fun n k x => ?_) | refine E.c (ih _ _ h) fun n k x I => ?_
  intro e m i0 i1 i2 i3 K R hK
  rw [zau]
  conv => lhs; arg 4; whnf
  first | (have := l15_; simp -dsimp -implicitDefEqProofs only [go_sem, *, simprocAttr]; refine zah (l15_.1 n (by omega) _ _ ?_ ?_ ?_ ?_ ?_ ?_ ?_ _ _ ?_); (iterate 7 (simp -dsimp -implicitDefEqProofs only [go_sem, *, simprocAttr])); simp only [ziW]; intro e m i0; (try simp -dsimp -implicitDefEqProofs only [go_sem, *, simprocAttr]); simp only [zf6] at hK; refine hK _ _ ?_; simp -dsimp -implicitDefEqProofs only [go_sem, *, simprocAttr]) | (have := l18_; simp -dsimp -implicitDefEqProofs only [go_sem, *, simprocAttr]; refine zah (l18_.1 n (by omega) _ _ ?_ ?_ ?_ ?_ ?_ ?_ ?_ _ _ ?_); (iterate 7 (simp -dsimp -implicitDefEqProofs only [go_sem, *, simprocAttr])); simp only [ziW]; intro e m i0 i1 i2 i3 i4 i5; obtain ⟨_, _, _⟩ := i4; first | (have := l19_; (try simp -dsimp -implicitDefEqProofs only [go_sem, *, simprocAttr]); refine zah (l19_.1 n (by omega) _ _ ?_ ?_ ?_ ?_ ?_ ?_ ?_ _ _ ?_); (iterate 7 (simp -dsimp -implicitDefEqProofs only [go_sem, *, simprocAttr])); simp only [ziV]; intro e m i0; (try simp -dsimp -implicitDefEqProofs only [go_sem, *, simprocAttr]); simp only [zf6] at hK; refine hK _ _ ?_; simp -dsimp -implicitDefEqProofs only [go_sem, *, simprocAttr]) | (have := l22_; (try simp -dsimp -implicitDefEqProofs only [go_sem, *, simprocAttr]); refine zah (l22_.1 n (by omega) _ _ ?_ ?_ ?_ ?_ ?_ ?_ ?_ _ _ ?_); (iterate 7 (simp -dsimp -implicitDefEqProofs only [go_sem, *, simprocAttr])); simp only [ziV]; intro e m i0 i1 i2 i3 i4; (try simp -dsimp -implicitDefEqProofs only [go_sem, *, simprocAttr]); refine zah (I.1 _ _ ?_ ?_ ?_ ?_ _ _ hK); (iterate 4 (simp -dsimp -implicitDefEqProofs only [go_sem, *, simprocAttr])))) | ((try simp -dsimp -implicitDefEqProofs only [go_sem, *, simprocAttr]); refine zah (I.1 _ _ ?_ ?_ ?_ ?_ _ _ hK); (iterate 4 (simp -dsimp -implicitDefEqProofs only [go_sem, *, simprocAttr]))) | ((try simp -dsimp -implicitDefEqProofs only [go_sem, *, simprocAttr]); simp only [zf6] at hK; refine hK _ _ ?_ ?_ ?_; (iterate 3 (simp -dsimp -implicitDefEqProofs only [go_sem, *, simprocAttr])))
def zhm (c1 : Sl zal) (K : Ex → St → Option Res) (R : Option Res) : Out (Int) (Int × Int) → Prop
 | .ret r => ∀ (e : Env) (m : Mem), e 2 = (.int .i64 r) → K .ret ⟨e, m⟩ = R
 | .done q => ∀ (e : Env) (m : Mem), e 3 = (.int .i64 q.1) → K (.exit 0) ⟨e, m⟩ = R
noncomputable def zwT : Code := zbq f93 [1, 1, 0, 1, 0, 0]
theorem zqb {c1 : Sl zal} {sz : Nat} (hg : zPA sz) {kk : Nat} : ∀ {k : Nat} {s2 : Int} {s3 : Int} {out : Out (Int) (Int × Int)}, zet c1 sz kk k s2 s3 = some out → ∃ N, ∀ n, N ≤ n → ∀ k, N ≤ k → ∀ (e : Env) (m : Mem), e 0 = (dSl zap c1) → e 3 = (.int .i64 s2) → e 4 = (.int .i64 s3) → ∀ (K : Ex → St → Option Res) (R : Option Res), zhm c1 K R out → zcj (zbH cfg (dfn cfg n) n zwT) K k ⟨e, m⟩ = R := by
 intro k
 induction k with
 | zero => intro s2 s3 out h; cases h
 | succ k ih => ?_
 intro s2 s3 out h
 have ih := fun x0 x1 {out} => @ih x0 x1 out
 unfold zet at h
 have E := evT
 rcases zac h with ⟨h23_, h⟩ | ⟨h23_, h⟩
 rcases zaz h with ⟨r26_, o25_, h⟩ | ⟨q30, o25_, h⟩
 obtain ⟨_, l24_, E⟩ := E.lp (zqa hg o25_)
 rotate_left
 obtain ⟨_, l27_, E⟩ := E.lp (zqa hg o25_)
 rotate_left
 rotate_left
 all_goals
  first | (obtain rfl := Option.some.inj h; refine E.l fun n k x => ?_) | refine E.c (ih _ _ h) fun n k x I => ?_
  intro e m i0 i1 i2 K R hK
  rw [zau]
  conv => lhs; arg 4; whnf
  first | (have := l24_; simp -dsimp -implicitDefEqProofs only [go_sem, *, simprocAttr]; refine zah (l24_.1 n (by omega) _ _ ?_ ?_ ?_ ?_ _ _ ?_); (iterate 4 (simp -dsimp -implicitDefEqProofs only [go_sem, *, simprocAttr])); simp only [zf6]; intro e m i0; (try simp -dsimp -implicitDefEqProofs only [go_sem, *, simprocAttr]); simp only [zhm] at hK; refine hK _ _ ?_; simp -dsimp -implicitDefEqProofs only [go_sem, *, simprocAttr]) | (have := l27_; simp -dsimp -implicitDefEqProofs only [go_sem, *, simprocAttr]; refine zah (l27_.1 n (by omega) _ _ ?_ ?_ ?_ ?_ _ _ ?_); (iterate 4 (simp -dsimp -implicitDefEqProofs only [go_sem, *, simprocAttr])); simp only [zf6]; intro e m i0 i1 i2; (try simp -dsimp -implicitDefEqProofs only [go_sem, *, simprocAttr]); refine zah (I.1 _ _ ?_ ?_ ?_ _ _ hK); (iterate 3 (simp -dsimp -implicitDefEqProofs only [go_sem, *, simprocAttr]))) | ((try simp -dsimp -implicitDefEqProofs only [go_sem, *, simprocAttr]); simp only [zhm] at hK; refine hK _ _ ?_; simp -dsimp -implicitDefEqProofs only [go_sem, *, simprocAttr])
theorem zBO {kk : Nat} {a : (Sl zal)} {sz : Nat} (hg : zPA sz) {r : Int} (h : zlF kk sz a = some r) : Ev cfg 93 [(dSl zap a)] (.int .i64 r) := by
 unfold zlF at h
 have E := evT
 rcases zaz h with ⟨r30_, o29_, h⟩ | ⟨q31, o29_, h⟩
 obtain ⟨_, l28_, E⟩ := E.lp (zqb hg o29_)
 rotate_left
 obtain ⟨_, l31_, E⟩ := E.lp (zqb hg o29_)
 rotate_left
 all_goals
  obtain rfl := Option.some.inj h
  refine E.s fun n x => ?_
  first | (have := l28_; simp -dsimp -implicitDefEqProofs only [go_sem, func93, f93, *, simprocAttr]; refine zah (l28_.1 n (by omega) _ _ ?_ ?_ ?_ _ _ ?_); (iterate 3 (simp -dsimp -implicitDefEqProofs only [go_sem, *, simprocAttr])); simp only [zhm]; intro e m i0; simp -dsimp -implicitDefEqProofs only [go_sem, func93, f93, *, simprocAttr]) | (have := l31_; simp -dsimp -implicitDefEqProofs only [go_sem, func93, f93, *, simprocAttr]; refine zah (l31_.1 n (by omega) _ _ ?_ ?_ ?_ _ _ ?_); (iterate 3 (simp -dsimp -implicitDefEqProofs only [go_sem, *, simprocAttr])); simp only [zhm]; intro e m i0; simp -dsimp -implicitDefEqProofs only [go_sem, func93, f93, *, simprocAttr])
theorem zxA : ∀ s : Nat, s < big → zPA s := by
 intro s
 induction s with
 | zero => intro _; exact fun _ h => absurd h (by omega)
 | succ s ih =>
   intro hb
   have hg := ih (by omega)
   exact
    fun a h => zBO (sz := s) hg (zwL (kk := s + 1) (sz := s) (by omega) (by omega) (by omega))
theorem zB3 (a : (Sl zal)) (h : zak a.l < big - 1) : Ev cfg 93 [(dSl zap a)] (.int .i64 (zjs a)) := (zxA (big - 1) (by unfold big; omega)) a h
end Go.Proofs.Tryz
set_option maxRecDepth 100000
set_option maxHeartbeats 4000000
set_option linter.unusedSimpArgs false
set_option linter.unusedVariables false
namespace Go.Proofs.Tryz
open Go.Ev
theorem zIh {kk : Nat} {a : (Sl zal)} {b : (Sl zal)} {r : Bool} (h : zr2 kk a b = some r) : Ev cfg 97 [(dSl zap a), (dSl zap b)] (.bool r) := by
 unfold zr2 at h
 have E := evT
 obtain ⟨_, h1_, h⟩ := zaa h
 have E := E.and (zB4 a b (zag h1_))
 obtain rfl := Option.some.inj h
 refine E.s fun n x => ?_
 simp -dsimp -implicitDefEqProofs only [go_sem, func97, f97, *, simprocAttr]
theorem zIn (a : (Sl zal)) (b : (Sl zal)) (h : zak a.l + zak b.l < big - 1) : Ev cfg 97 [(dSl zap a), (dSl zap b)] (.bool (zn7 a b)) := zIh (zBZ (kk := big) a b h (by omega))
theorem zur {kk : Nat} {a : (Sl zal)} {b : (Sl zal)} {r : Bool} (h : zhE kk a b = some r) : Ev cfg 10 [(dSl zap a), (dSl zap b)] (.bool r) := by
 unfold zhE at h
 have E := evT
 obtain ⟨_, h1_, h⟩ := zaa h
 have E := E.and (zsr a b (zag h1_))
 obtain rfl := Option.some.inj h
 refine E.s fun n x => ?_
 simp -dsimp -implicitDefEqProofs only [go_sem, func10, f10, *, simprocAttr]
theorem znp (a : (Sl zal)) (b : (Sl zal)) (h : 8 * (zak a.l + zak b.l) + 7 < big - 1) : Ev cfg 10 [(dSl zap a), (dSl zap b)] (.bool (zn7 a b)) := zur (zrA (kk := big) a b h (by omega))
def zjP (c6 : Sl zal) (c7 : Int) (K : Ex → St → Option Res) (R : Option Res) : Out (Bool) (Int) → Prop
 | .ret r => ∀ (e : Env) (m : Mem), e 2 = (.bool r) → K .ret ⟨e, m⟩ = R
 | .done q => ∀ (e : Env) (m : Mem), e 0 = (dSl zap c6) → e 3 = (.int .i64 c7) → K (.exit 2) ⟨e, m⟩ = R
noncomputable def zCc : Code := zbq f49 [1, 1, 0, 1, 0, 0, 1, 0, 0, 1, 1, 0, 0]
theorem zuy {c6 : Sl zal} {c7 : Int} {kk : Nat} : ∀ {k : Nat} {s8 : Int} {out : Out (Bool) (Int)}, zg2 c6 c7 kk k s8 = some out → ∃ N, ∀ n, N ≤ n → ∀ k, N ≤ k → ∀ (e : Env) (m : Mem), e 0 = (dSl zap c6) → e 3 = (.int .i64 c7) → e 4 = (.int .i64 s8) → ∀ (K : Ex → St → Option Res) (R : Option Res), zjP c6 c7 K R out → zcj (zbH cfg (dfn cfg n) n zCc) K k ⟨e, m⟩ = R := by
 intro k
 induction k with
 | zero => intro s8 out h; cases h
 | succ k ih => ?_
 intro s8 out h
 have ih := fun x0 {out} => @ih x0 out
 unfold zg2 at h
 have E := evT
 obtain ⟨y9, h1_, h⟩ := zaa h
 obtain ⟨_, h2_⟩ := zaI h1_
 have h2_ := zax h2_ zap
 rcases zac h with ⟨h3_, h⟩ | ⟨h3_, h⟩
 obtain ⟨y10, h4_, h⟩ := zaa h
 obtain ⟨_, h5_⟩ := zaI h4_
 have h5_ := zax h5_ zar
 rcases zac h with ⟨h6_, h⟩ | ⟨h6_, h⟩
 have b7_ := zaq h6_
 rcases zac h with ⟨h8_, h⟩ | ⟨h8_, h⟩
 rotate_left
 rotate_left
 have b9_ := zam h6_
 rotate_left
 rotate_left
 all_goals
  first | (obtain rfl := Option.some.inj h; refine E.l fun n k x => ?_) | refine E.c (ih _ h) fun n k x I => ?_
  intro e m i0 i1 i2 K R hK
  rw [zau]
  (conv => lhs; arg 4; whnf)
  first | (simp -dsimp -implicitDefEqProofs only [go_sem, *, simprocAttr]; simp only [zjP] at hK; refine hK _ _ ?_; simp -dsimp -implicitDefEqProofs only [go_sem, *, simprocAttr]) | (simp -dsimp -implicitDefEqProofs only [go_sem, *, simprocAttr]; refine zah (I.1 _ _ ?_ ?_ ?_ _ _ hK); (iterate 3 (simp -dsimp -implicitDefEqProofs only [go_sem, *, simprocAttr]))) | (simp -dsimp -implicitDefEqProofs only [go_sem, *, simprocAttr]; simp only [zjP] at hK; refine hK _ _ ?_ ?_; (iterate 2 (simp -dsimp -implicitDefEqProofs only [go_sem, *, simprocAttr])))
def zio (c3 : Sl zal) (K : Ex → St → Option Res) (R : Option Res) : Out (Bool) (Int) → Prop
 | .ret r => ∀ (e : Env) (m : Mem), e 2 = (.bool r) → K .ret ⟨e, m⟩ = R
 | .done q => ∀ (e : Env) (m : Mem), K (.exit 0) ⟨e, m⟩ = R
noncomputable def zCd : Code := zbq f49 [1, 1, 0, 1, 0, 0]
theorem zuz {c3 : Sl zal} {kk : Nat} : ∀ {k : Nat} {s4 : Int} {out : Out (Bool) (Int)}, zg3 c3 kk k s4 = some out → ∃ N, ∀ n, N ≤ n → ∀ k, N ≤ k → ∀ (e : Env) (m : Mem), e 0 = (dSl zap c3) → e 3 = (.int .i64 s4) → ∀ (K : Ex → St → Option Res) (R : Option Res), zio c3 K R out → zcj (zbH cfg (dfn cfg n) n zCd) K k ⟨e, m⟩ = R := by
 intro k
 induction k with
 | zero => intro s4 out h; cases h
 | succ k ih => ?_
 intro s4 out h
 have ih := fun x0 {out} => @ih x0 out
 unfold zg3 at h
 have E := evT
 rcases zac h with ⟨h10_, h⟩ | ⟨h10_, h⟩
 obtain ⟨y5, h11_, h⟩ := zaa h
 obtain ⟨_, h12_⟩ := zaI h11_
 have h12_ := zax h12_ zap
 rcases zac h with ⟨h13_, h⟩ | ⟨h13_, h⟩
 rotate_left
 rcases zaz h with ⟨r16_, o15_, h⟩ | ⟨q11, o15_, h⟩
 obtain ⟨_, l14_, E⟩ := E.lp (zuy o15_)
 rotate_left
 obtain ⟨_, l17_, E⟩ := E.lp (zuy o15_)
 rotate_left
 rotate_left
 all_goals
  first | (obtain rfl := Option.some.inj h; refine E.l fun n k x => ?_) | refine E.c (ih _ h) fun n k x I => ?_
  intro e m i0 i1 K R hK
  rw [zau]
  (conv => lhs; arg 4; whnf)
  first | (have := l14_; simp -dsimp -implicitDefEqProofs only [go_sem, *, simprocAttr]; refine zah (l14_.1 n (by omega) _ _ ?_ ?_ ?_ _ _ ?_); (iterate 3 (simp -dsimp -implicitDefEqProofs only [go_sem, *, simprocAttr])); simp only [zjP]; intro e m i0; (try simp -dsimp -implicitDefEqProofs only [go_sem, *, simprocAttr]); simp only [zio] at hK; refine hK _ _ ?_; simp -dsimp -implicitDefEqProofs only [go_sem, *, simprocAttr]) | (have := l17_; simp -dsimp -implicitDefEqProofs only [go_sem, *, simprocAttr]; refine zah (l17_.1 n (by omega) _ _ ?_ ?_ ?_ _ _ ?_); (iterate 3 (simp -dsimp -implicitDefEqProofs only [go_sem, *, simprocAttr])); simp only [zjP]; intro e m i0 i1; (try simp -dsimp -implicitDefEqProofs only [go_sem, *, simprocAttr]); refine zah (I.1 _ _ ?_ ?_ _ _ hK); (iterate 2 (simp -dsimp -implicitDefEqProofs only [go_sem, *, simprocAttr]))) | ((try simp -dsimp -implicitDefEqProofs only [go_sem, *, simprocAttr]); simp only [zio] at hK; refine hK _ _ ?_; simp -dsimp -implicitDefEqProofs only [go_sem, *, simprocAttr]) | ((try simp -dsimp -implicitDefEqProofs only [go_sem, *, simprocAttr]); simp only [zio] at hK; refine hK _ _)
theorem zIi {kk : Nat} {a : (Sl zal)} {r : Bool} (h : zr3 kk a = some r) : Ev cfg 49 [(dSl zap a)] (.bool r) := by
 unfold zr3 at h
 have E := evT
 rcases zac h with ⟨h18_, h⟩ | ⟨h18_, h⟩
 have b19_ := zaq h18_
 obtain ⟨_, h20_, h⟩ := zaa h
 have E := E.and (zB3 a (zag h20_))
 rcases zac h with ⟨h21_, h⟩ | ⟨h21_, h⟩
 have b22_ := zaq h21_
 obtain ⟨_, h23_, h⟩ := zaa h
 have E := E.and (zIm a (zag h23_))
 rcases zac h with ⟨h24_, h⟩ | ⟨h24_, h⟩
 rotate_left
 rcases zaz h with ⟨r27_, o26_, h⟩ | ⟨q12, o26_, h⟩
 obtain ⟨_, l25_, E⟩ := E.lp (zuz o26_)
 rotate_left
 obtain ⟨_, l28_, E⟩ := E.lp (zuz o26_)
 rotate_left
 have b29_ := zam h21_
 rotate_left
 have b30_ := zam h18_
 rotate_left
 all_goals
  obtain rfl := Option.some.inj h
  refine E.s fun n x => ?_
  first | (have := l25_; simp -dsimp -implicitDefEqProofs only [go_sem, func49, f49, *, simprocAttr]; refine zah (l25_.1 n (by omega) _ _ ?_ ?_ _ _ ?_); (iterate 2 (simp -dsimp -implicitDefEqProofs only [go_sem, *, simprocAttr])); simp only [zio]; intro e m i0; simp -dsimp -implicitDefEqProofs only [go_sem, func49, f49, *, simprocAttr]) | (have := l28_; simp -dsimp -implicitDefEqProofs only [go_sem, func49, f49, *, simprocAttr]; refine zah (l28_.1 n (by omega) _ _ ?_ ?_ _ _ ?_); (iterate 2 (simp -dsimp -implicitDefEqProofs only [go_sem, *, simprocAttr])); simp only [zio]; intro e m; simp -dsimp -implicitDefEqProofs only [go_sem, func49, f49, *, simprocAttr]) | (simp -dsimp -implicitDefEqProofs only [go_sem, func49, f49, *, simprocAttr])
theorem zIo (a : (Sl zal)) (h : zak a.l < big - 1) : Ev cfg 49 [(dSl zap a)] (.bool (zof a)) := zIi (zB0 (kk := big) a h (by omega))
def zgl (c1 : Int) (c2 : Sl zad) (c4 : Val) (K : Ex → St → Option Res) (R : Option Res) : Out (Bool) (Int) → Prop
 | .ret r => ∀ (e : Env) (m : Mem), e 8 = (.bool r) → K .ret ⟨e, m⟩ = R
 | .done q => ∀ (e : Env) (m : Mem), K (.exit 0) ⟨e, m⟩ = R
noncomputable def zzG : Code := zbq f100 [1, 1, 0, 1, 0, 0]
theorem zkx {c1 : Int} {c2 : Sl zad} {c4 : Val} {kk : Nat} : ∀ {k : Nat} {s3 : Int} {out : Out (Bool) (Int)}, zhb c1 c2 c4 kk k s3 = some out → ∃ N, ∀ n, N ≤ n → ∀ k, N ≤ k → ∀ (e : Env) (m : Mem), e 0 = (.int .i64 c1) → e 1 = (dSl zao c2) → zci (e 7) m 7 3 (zhj c4) → e 9 = (.int .i64 s3) → ∀ (K : Ex → St → Option Res) (R : Option Res), zgl c1 c2 c4 K R out → zcj (zbH cfg (dfn cfg n) n zzG) K k ⟨e, m⟩ = R := by
 intro k
 induction k with
 | zero => intro s3 out h; cases h
 | succ k ih => ?_
 intro s3 out h
 have ih := fun x0 {out} => @ih x0 out
 unfold zhb at h
 have E := evT
 rcases zac h with ⟨h1_, h⟩ | ⟨h1_, h⟩
 obtain ⟨y5, h2_, h⟩ := zaa h
 obtain ⟨_, h3_⟩ := zaI h2_
 have h3_ := zax h3_ zao
 have E := E.and (ztj y5.value)
 rcases zac h with ⟨h4_, h⟩ | ⟨h4_, h⟩
 rcases zbW h4_ with b5_ | ⟨b5_, b6_⟩
 rcases zbW b5_ with b7_ | ⟨b7_, b8_⟩
 have b9_ := zaq b7_
 rcases Bool.eq_false_or_eq_true ((c1 == 0)) with h16_ | h16_
 rotate_left
 rotate_left
 have b10_ := zam b7_
 rcases Bool.eq_false_or_eq_true ((c1 == 0)) with h17_ | h17_
 rotate_left
 rotate_left
 obtain ⟨b11_, b12_⟩ := zaM b5_
 have b13_ := zam b11_
 obtain ⟨b14_, b15_⟩ := zb2 b6_
 rotate_left
 obtain ⟨b18_, b19_⟩ := zaM h4_
 obtain ⟨b20_, b21_⟩ := zaM b18_
 have b22_ := zam b20_
 rcases zbC b19_ with b23_ | ⟨b23_, b24_⟩
 rotate_left
 rotate_left
 rotate_left
 all_goals
  first | (obtain rfl := Option.some.inj h; refine E.l fun n k x => ?_) | refine E.c (ih _ h) fun n k x I => ?_
  intro e m i0 i1 i2 i3 K R hK
  obtain ⟨_, _, _⟩ := i2
  rw [zau]
  (conv => lhs; arg 4; whnf)
  first | (simp -dsimp -implicitDefEqProofs only [go_sem, *, simprocAttr]; simp only [zgl] at hK; refine hK _ _ ?_; simp -dsimp -implicitDefEqProofs only [go_sem, *, simprocAttr]) | (simp -dsimp -implicitDefEqProofs only [go_sem, *, simprocAttr]; refine zah (I.1 _ _ ?_ ?_ ?_ ?_ _ _ hK); (iterate 4 (simp -dsimp -implicitDefEqProofs only [go_sem, *, simprocAttr]))) | (simp -dsimp -implicitDefEqProofs only [go_sem, *, simprocAttr]; simp only [zgl] at hK; refine hK _ _)
theorem zFz {kk : Nat} {a : Int} {b : (Sl zad)} {c : Int} {d : Val} {r : Bool} (h : zpG kk a b c d = some r) : Ev cfg 100 [(.int .i64 a), (dSl zao b), (.int .i64 c), (.agg (zhj d))] (.bool r) := by
 unfold zpG at h
 have E := evT
 have E := E.and (ztj d)
 rcases zac h with ⟨h25_, h⟩ | ⟨h25_, h⟩
 rcases zbW h25_ with b26_ | ⟨b26_, b27_⟩
 rcases zbW b26_ with b28_ | ⟨b28_, b29_⟩
 rcases zbW b28_ with b30_ | ⟨b30_, b31_⟩
 rcases zbW b30_ with b32_ | ⟨b32_, b33_⟩
 rcases zbW b32_ with b34_ | ⟨b34_, b35_⟩
 rcases Bool.eq_false_or_eq_true ((decide (a ≤ 1))) with h60_ | h60_
 rotate_left
 rotate_left
 rcases Bool.eq_false_or_eq_true ((decide (a ≤ 1))) with h61_ | h61_
 rotate_left
 rotate_left
 obtain ⟨b36_, b37_⟩ := zaM b32_
 rcases Bool.eq_false_or_eq_true ((decide (a ≤ 1))) with h62_ | h62_
 rotate_left
 rotate_left
 obtain ⟨b38_, b39_⟩ := zaM b30_
 obtain ⟨b40_, b41_⟩ := zaM b38_
 rcases Bool.eq_false_or_eq_true ((decide (a ≤ 1))) with h63_ | h63_
 rotate_left
 rotate_left
 obtain ⟨b42_, b43_⟩ := zaM b28_
 obtain ⟨b44_, b45_⟩ := zaM b42_
 obtain ⟨b46_, b47_⟩ := zaM b44_
 have b48_ := zaq b29_
 rcases Bool.eq_false_or_eq_true ((decide (a ≤ 1))) with h64_ | h64_
 rotate_left
 rotate_left
 obtain ⟨b49_, b50_⟩ := zaM b26_
 obtain ⟨b51_, b52_⟩ := zaM b49_
 obtain ⟨b53_, b54_⟩ := zaM b51_
 obtain ⟨b55_, b56_⟩ := zaM b53_
 have b57_ := zam b50_
 obtain ⟨b58_, b59_⟩ := zb2 b27_
 rotate_left
 obtain ⟨b65_, b66_⟩ := zaM h25_
 obtain ⟨b67_, b68_⟩ := zaM b65_
 obtain ⟨b69_, b70_⟩ := zaM b67_
 obtain ⟨b71_, b72_⟩ := zaM b69_
 obtain ⟨b73_, b74_⟩ := zaM b71_
 have b75_ := zam b68_
 rcases zbC b66_ with b76_ | ⟨b76_, b77_⟩
 rcases zaz h with ⟨r80_, o79_, h⟩ | ⟨q6, o79_, h⟩
 obtain ⟨_, l78_, E⟩ := E.lp (zkx o79_)
 rotate_left
 obtain ⟨_, l81_, E⟩ := E.lp (zkx o79_)
 rotate_left
 rcases zaz h with ⟨r84_, o83_, h⟩ | ⟨q6, o83_, h⟩
 obtain ⟨_, l82_, E⟩ := E.lp (zkx o83_)
 rotate_left
 obtain ⟨_, l85_, E⟩ := E.lp (zkx o83_)
 rotate_left
 all_goals
  obtain rfl := Option.some.inj h
  refine E.s fun n x => ?_
  first | (have := l78_; simp -dsimp -implicitDefEqProofs only [go_sem, func100, f100, *, simprocAttr]; refine zah (l78_.1 n (by omega) _ _ ?_ ?_ ?_ ?_ _ _ ?_); (iterate 4 (simp -dsimp -implicitDefEqProofs only [go_sem, *, simprocAttr])); simp only [zgl]; intro e m i0; simp -dsimp -implicitDefEqProofs only [go_sem, func100, f100, *, simprocAttr]) | (have := l81_; simp -dsimp -implicitDefEqProofs only [go_sem, func100, f100, *, simprocAttr]; refine zah (l81_.1 n (by omega) _ _ ?_ ?_ ?_ ?_ _ _ ?_); (iterate 4 (simp -dsimp -implicitDefEqProofs only [go_sem, *, simprocAttr])); simp only [zgl]; intro e m; simp -dsimp -implicitDefEqProofs only [go_sem, func100, f100, *, simprocAttr]) | (have := l82_; simp -dsimp -implicitDefEqProofs only [go_sem, func100, f100, *, simprocAttr]; refine zah (l82_.1 n (by omega) _ _ ?_ ?_ ?_ ?_ _ _ ?_); (iterate 4 (simp -dsimp -implicitDefEqProofs only [go_sem, *, simprocAttr])); simp only [zgl]; intro e m i0; simp -dsimp -implicitDefEqProofs only [go_sem, func100, f100, *, simprocAttr]) | (have := l85_; simp -dsimp -implicitDefEqProofs only [go_sem, func100, f100, *, simprocAttr]; refine zah (l85_.1 n (by omega) _ _ ?_ ?_ ?_ ?_ _ _ ?_); (iterate 4 (simp -dsimp -implicitDefEqProofs only [go_sem, *, simprocAttr])); simp only [zgl]; intro e m; simp -dsimp -implicitDefEqProofs only [go_sem, func100, f100, *, simprocAttr]) | (simp -dsimp -implicitDefEqProofs only [go_sem, func100, f100, *, simprocAttr])
theorem zFG (a : Int) (b : (Sl zad)) (c : Int) (d : Val) (h : b.l.length < big - 1) : Ev cfg 100 [(.int .i64 a), (dSl zao b), (.int .i64 c), (.agg (zhj d))] (.bool (zj6 a b c d)) := zFz (zzA (kk := big) a b c d h (by omega))
end Go.Proofs.Tryz
set_option maxRecDepth 100000
set_option maxHeartbeats 4000000
set_option linter.unusedSimpArgs false
set_option linter.unusedVariables false
namespace Go.Proofs.Tryz
open Go.Ev
def ziP (c16 : Sl zal) (c17 : Int) (c19 : zal) (K : Ex → St → Option Res) (R : Option Res) : Out (Bool) (Int) → Prop
 | .ret r => ∀ (e : Env) (m : Mem), e 2 = (.bool r) → K .ret ⟨e, m⟩ = R
 | .done q => ∀ (e : Env) (m : Mem), e 0 = (dSl zap c16) → e 3 = (.int .i64 c17) → K (.exit 2) ⟨e, m⟩ = R
noncomputable def zzH : Code := zbq f20 [1, 1, 0, 1, 0, 0, 1, 0, 0, 1, 1, 1, 0, 0]
abbrev zM8 (sz : Nat) : Prop := (∀ (a : (Sl zal)), zak a.l < sz → Ev cfg 20 [(dSl zap a)] (.bool (zbZ a))) ∧ (∀ (a : zan), zbx a < sz → Ev cfg 51 [(.agg (zbj a))] (.bool (zgw a)))
theorem zsH {c16 : Sl zal} {c17 : Int} {c19 : zal} {sz : Nat} (hg : zM8 sz) {kk : Nat} : ∀ {k : Nat} {s18 : Int} {out : Out (Bool) (Int)}, zdD c16 c17 c19 sz kk k s18 = some out → ∃ N, ∀ n, N ≤ n → ∀ k, N ≤ k → ∀ (e : Env) (m : Mem), e 0 = (dSl zap c16) → e 3 = (.int .i64 c17) → zci (e 4) m 4 2 (zap c19) → e 5 = (.int .i64 s18) → ∀ (K : Ex → St → Option Res) (R : Option Res), ziP c16 c17 c19 K R out → zcj (zbH cfg (dfn cfg n) n zzH) K k ⟨e, m⟩ = R := by
 have ⟨_, hVA⟩ := hg
 intro k
 induction k with
 | zero => intro s18 out h; cases h
 | succ k ih => ?_
 intro s18 out h
 have ih := fun x0 {out} => @ih x0 out
 unfold zdD at h
 have E := evT
 rcases zac h with ⟨h1_, h⟩ | ⟨h1_, h⟩
 obtain ⟨y20, h2_, h⟩ := zaa h
 obtain ⟨_, h3_⟩ := zaI h2_
 have h3_ := zax h3_ zar
 rcases zac h with ⟨h4_, h⟩ | ⟨h4_, h⟩
 have b5_ := zaq h4_
 obtain ⟨b6_, b7_⟩ := zaM b5_
 rcases zbC b7_ with b8_ | ⟨b8_, b9_⟩
 obtain ⟨_, h10_, h⟩ := zaa h
 have E := E.and (hVA y20.atom (zag h10_))
 rcases zac h with ⟨h11_, h⟩ | ⟨h11_, h⟩
 obtain ⟨y22, h12_, h⟩ := zaa h
 obtain ⟨_, h13_⟩ := zaI h12_
 have h13_ := zax h13_ zar
 obtain ⟨_, h14_, h⟩ := zaa h
 have E := E.and (ziw y22.atom y20.atom (zag h14_))
 rcases zac h with ⟨h15_, h⟩ | ⟨h15_, h⟩
 rcases zbW h15_ with b16_ | ⟨b16_, b17_⟩
 have b18_ := zaq b16_
 rotate_left
 have b19_ := zam b16_
 rotate_left
 obtain ⟨b20_, b21_⟩ := zaM h15_
 have b22_ := zam b20_
 rotate_left
 rcases zac h with ⟨h23_, h⟩ | ⟨h23_, h⟩
 have b24_ := zaq h23_
 have b25_ := zam b24_
 rotate_left
 have b26_ := zam h23_
 have b27_ := zaq b26_
 rotate_left
 obtain ⟨_, h28_, h⟩ := zaa h
 have E := E.and (hVA y20.atom (zag h28_))
 rcases zac h with ⟨h29_, h⟩ | ⟨h29_, h⟩
 obtain ⟨y22, h30_, h⟩ := zaa h
 obtain ⟨_, h31_⟩ := zaI h30_
 have h31_ := zax h31_ zar
 obtain ⟨_, h32_, h⟩ := zaa h
 have E := E.and (ziw y22.atom y20.atom (zag h32_))
 rcases zac h with ⟨h33_, h⟩ | ⟨h33_, h⟩
 rcases zbW h33_ with b34_ | ⟨b34_, b35_⟩
 have b36_ := zaq b34_
 rotate_left
 have b37_ := zam b34_
 rotate_left
 obtain ⟨b38_, b39_⟩ := zaM h33_
 have b40_ := zam b38_
 rotate_left
 rcases zac h with ⟨h41_, h⟩ | ⟨h41_, h⟩
 have b42_ := zaq h41_
 have b43_ := zam b42_
 rotate_left
 have b44_ := zam h41_
 have b45_ := zaq b44_
 rotate_left
 have b46_ := zam h4_
 rcases zbW b46_ with b47_ | ⟨b47_, b48_⟩
 rcases Bool.eq_false_or_eq_true ((decide (1 < y20.exp))) with h51_ | h51_
 rotate_left
 rotate_left
 obtain ⟨b49_, b50_⟩ := zb2 b48_
 rotate_left
 rotate_left
 all_goals
  first | (obtain rfl := Option.some.inj h; refine E.l fun n k x => ?_) | refine E.c (ih _ h) fun n k x I => ?_
  intro e m i0 i1 i2 i3 K R hK
  obtain ⟨_, _, _⟩ := i2
  rw [zau]
  conv => lhs; arg 4; whnf
  first | (simp -dsimp -implicitDefEqProofs only [go_sem, *, simprocAttr]; simp only [ziP] at hK; refine hK _ _ ?_; simp -dsimp -implicitDefEqProofs only [go_sem, *, simprocAttr]) | (simp -dsimp -implicitDefEqProofs only [go_sem, *, simprocAttr]; refine zah (I.1 _ _ ?_ ?_ ?_ ?_ _ _ hK); (iterate 4 (simp -dsimp -implicitDefEqProofs only [go_sem, *, simprocAttr]))) | (simp -dsimp -implicitDefEqProofs only [go_sem, *, simprocAttr]; simp only [ziP] at hK; refine hK _ _ ?_ ?_; (iterate 2 (simp -dsimp -implicitDefEqProofs only [go_sem, *, simprocAttr])))
def ziQ (c7 : Sl zal) (c8 : Int) (c10 : zal) (K : Ex → St → Option Res) (R : Option Res) : Out (Bool) (Int) → Prop
 | .ret r => ∀ (e : Env) (m : Mem), e 2 = (.bool r) → K .ret ⟨e, m⟩ = R
 | .done q => ∀ (e : Env) (m : Mem), e 0 = (dSl zap c7) → e 3 = (.int .i64 c8) → K (.exit 2) ⟨e, m⟩ = R
noncomputable def zzI : Code := zbq f20 [1, 1, 0, 1, 0, 0, 1, 0, 0, 1, 1, 1, 0, 0]
theorem zsI {c7 : Sl zal} {c8 : Int} {c10 : zal} {sz : Nat} (hg : zM8 sz) {kk : Nat} : ∀ {k : Nat} {s9 : Int} {out : Out (Bool) (Int)}, zhc c7 c8 c10 sz kk k s9 = some out → ∃ N, ∀ n, N ≤ n → ∀ k, N ≤ k → ∀ (e : Env) (m : Mem), e 0 = (dSl zap c7) → e 3 = (.int .i64 c8) → zci (e 4) m 4 2 (zap c10) → e 5 = (.int .i64 s9) → ∀ (K : Ex → St → Option Res) (R : Option Res), ziQ c7 c8 c10 K R out → zcj (zbH cfg (dfn cfg n) n zzI) K k ⟨e, m⟩ = R := by
 have ⟨_, hVA⟩ := hg
 intro k
 induction k with
 | zero => intro s9 out h; cases h
 | succ k ih => ?_
 intro s9 out h
 have ih := fun x0 {out} => @ih x0 out
 unfold zhc at h
 have E := evT
 rcases zac h with ⟨h52_, h⟩ | ⟨h52_, h⟩
 obtain ⟨y11, h53_, h⟩ := zaa h
 obtain ⟨_, h54_⟩ := zaI h53_
 have h54_ := zax h54_ zar
 rcases zac h with ⟨h55_, h⟩ | ⟨h55_, h⟩
 have b56_ := zaq h55_
 obtain ⟨b57_, b58_⟩ := zaM b56_
 rcases zbC b58_ with b59_ | ⟨b59_, b60_⟩
 obtain ⟨_, h61_, h⟩ := zaa h
 have E := E.and (hVA y11.atom (zag h61_))
 rcases zac h with ⟨h62_, h⟩ | ⟨h62_, h⟩
 obtain ⟨y13, h63_, h⟩ := zaa h
 obtain ⟨_, h64_⟩ := zaI h63_
 have h64_ := zax h64_ zar
 obtain ⟨_, h65_, h⟩ := zaa h
 have E := E.and (ziw y13.atom y11.atom (zag h65_))
 rcases zac h with ⟨h66_, h⟩ | ⟨h66_, h⟩
 rcases zbW h66_ with b67_ | ⟨b67_, b68_⟩
 have b69_ := zaq b67_
 rotate_left
 have b70_ := zam b67_
 rotate_left
 obtain ⟨b71_, b72_⟩ := zaM h66_
 have b73_ := zam b71_
 rotate_left
 rcases zac h with ⟨h74_, h⟩ | ⟨h74_, h⟩
 have b75_ := zaq h74_
 have b76_ := zam b75_
 rotate_left
 have b77_ := zam h74_
 have b78_ := zaq b77_
 rotate_left
 obtain ⟨_, h79_, h⟩ := zaa h
 have E := E.and (hVA y11.atom (zag h79_))
 rcases zac h with ⟨h80_, h⟩ | ⟨h80_, h⟩
 obtain ⟨y13, h81_, h⟩ := zaa h
 obtain ⟨_, h82_⟩ := zaI h81_
 have h82_ := zax h82_ zar
 obtain ⟨_, h83_, h⟩ := zaa h
 have E := E.and (ziw y13.atom y11.atom (zag h83_))
 rcases zac h with ⟨h84_, h⟩ | ⟨h84_, h⟩
 rcases zbW h84_ with b85_ | ⟨b85_, b86_⟩
 have b87_ := zaq b85_
 rotate_left
 have b88_ := zam b85_
 rotate_left
 obtain ⟨b89_, b90_⟩ := zaM h84_
 have b91_ := zam b89_
 rotate_left
 rcases zac h with ⟨h92_, h⟩ | ⟨h92_, h⟩
 have b93_ := zaq h92_
 have b94_ := zam b93_
 rotate_left
 have b95_ := zam h92_
 have b96_ := zaq b95_
 rotate_left
 have b97_ := zam h55_
 rcases zbW b97_ with b98_ | ⟨b98_, b99_⟩
 rcases Bool.eq_false_or_eq_true ((decide (1 < y11.exp))) with h102_ | h102_
 rotate_left
 rotate_left
 obtain ⟨b100_, b101_⟩ := zb2 b99_
 rotate_left
 rotate_left
 all_goals
  first | (obtain rfl := Option.some.inj h; refine E.l fun n k x => ?_) | refine E.c (ih _ h) fun n k x I => ?_
  intro e m i0 i1 i2 i3 K R hK
  obtain ⟨_, _, _⟩ := i2
  rw [zau]
  conv => lhs; arg 4; whnf
  first | (simp -dsimp -implicitDefEqProofs only [go_sem, *, simprocAttr]; simp only [ziQ] at hK; refine hK _ _ ?_; simp -dsimp -implicitDefEqProofs only [go_sem, *, simprocAttr]) | (simp -dsimp -implicitDefEqProofs only [go_sem, *, simprocAttr]; refine zah (I.1 _ _ ?_ ?_ ?_ ?_ _ _ hK); (iterate 4 (simp -dsimp -implicitDefEqProofs only [go_sem, *, simprocAttr]))) | (simp -dsimp -implicitDefEqProofs only [go_sem, *, simprocAttr]; simp only [ziQ] at hK; refine hK _ _ ?_ ?_; (iterate 2 (simp -dsimp -implicitDefEqProofs only [go_sem, *, simprocAttr])))
def zgm (c2 : Sl zal) (K : Ex → St → Option Res) (R : Option Res) : Out (Bool) (Int) → Prop
 | .ret r => ∀ (e : Env) (m : Mem), e 2 = (.bool r) → K .ret ⟨e, m⟩ = R
 | .done q => ∀ (e : Env) (m : Mem), K (.exit 0) ⟨e, m⟩ = R
noncomputable def zzJ : Code := zbq f20 [1, 1, 0, 1, 0, 0]
theorem zsJ {c2 : Sl zal} {sz : Nat} (hg : zM8 sz) {kk : Nat} : ∀ {k : Nat} {s3 : Int} {out : Out (Bool) (Int)}, zfj c2 sz kk k s3 = some out → ∃ N, ∀ n, N ≤ n → ∀ k, N ≤ k → ∀ (e : Env) (m : Mem), e 0 = (dSl zap c2) → e 3 = (.int .i64 s3) → ∀ (K : Ex → St → Option Res) (R : Option Res), zgm c2 K R out → zcj (zbH cfg (dfn cfg n) n zzJ) K k ⟨e, m⟩ = R := by
 intro k
 induction k with
 | zero => intro s3 out h; cases h
 | succ k ih => ?_
 intro s3 out h
 have ih := fun x0 {out} => @ih x0 out
 unfold zfj at h
 have E := evT
 rcases zac h with ⟨h103_, h⟩ | ⟨h103_, h⟩
 obtain ⟨y4, h104_, h⟩ := zaa h
 obtain ⟨_, h105_⟩ := zaI h104_
 have h105_ := zax h105_ zap
 rcases zac h with ⟨h106_, h⟩ | ⟨h106_, h⟩
 obtain ⟨y5, h107_, h⟩ := zaa h
 obtain ⟨_, h108_⟩ := zaI h107_
 have h108_ := zax h108_ zap
 obtain ⟨_, h109_, h⟩ := zaa h
 have E := E.and (zsn y5.factors y4.factors (zag h109_))
 rcases zac h with ⟨h110_, h⟩ | ⟨h110_, h⟩
 rcases zbW h110_ with b111_ | ⟨b111_, b112_⟩
 rcases zbW b111_ with b113_ | ⟨b113_, b114_⟩
 rotate_left
 rotate_left
 obtain ⟨b115_, b116_⟩ := zaM b111_
 rotate_left
 obtain ⟨b117_, b118_⟩ := zaM h110_
 obtain ⟨b119_, b120_⟩ := zaM b117_
 rcases zaz h with ⟨r123_, o122_, h⟩ | ⟨q15, o122_, h⟩
 obtain ⟨_, l121_, E⟩ := E.lp (zsI hg o122_)
 rotate_left
 obtain ⟨_, l124_, E⟩ := E.lp (zsI hg o122_)
 rotate_left
 rcases zac h with ⟨h125_, h⟩ | ⟨h125_, h⟩
 have b126_ := zaq h125_
 obtain ⟨b127_, b128_⟩ := zaM b126_
 rcases zaz h with ⟨r131_, o130_, h⟩ | ⟨q24, o130_, h⟩
 obtain ⟨_, l129_, E⟩ := E.lp (zsH hg o130_)
 rotate_left
 obtain ⟨_, l132_, E⟩ := E.lp (zsH hg o130_)
 rotate_left
 have b133_ := zam h125_
 rcases zbW b133_ with b134_ | ⟨b134_, b135_⟩
 rotate_left
 rotate_left
 rotate_left
 all_goals
  first | (obtain rfl := Option.some.inj h; refine E.l fun n k x => ?_) | refine E.c (ih _ h) fun n k x I => ?_
  intro e m i0 i1 K R hK
  rw [zau]
  conv => lhs; arg 4; whnf
  first | (have := l121_; simp -dsimp -implicitDefEqProofs only [go_sem, *, simprocAttr]; refine zah (l121_.1 n (by omega) _ _ ?_ ?_ ?_ ?_ _ _ ?_); (iterate 4 (simp -dsimp -implicitDefEqProofs only [go_sem, *, simprocAttr])); simp only [ziQ]; intro e m i0; (try simp -dsimp -implicitDefEqProofs only [go_sem, *, simprocAttr]); simp only [zgm] at hK; refine hK _ _ ?_; simp -dsimp -implicitDefEqProofs only [go_sem, *, simprocAttr]) | (have := l124_; simp -dsimp -implicitDefEqProofs only [go_sem, *, simprocAttr]; refine zah (l124_.1 n (by omega) _ _ ?_ ?_ ?_ ?_ _ _ ?_); (iterate 4 (simp -dsimp -implicitDefEqProofs only [go_sem, *, simprocAttr])); simp only [ziQ]; intro e m i0 i1; (try simp -dsimp -implicitDefEqProofs only [go_sem, *, simprocAttr]); refine zah (I.1 _ _ ?_ ?_ _ _ hK); (iterate 2 (simp -dsimp -implicitDefEqProofs only [go_sem, *, simprocAttr]))) | (have := l129_; simp -dsimp -implicitDefEqProofs only [go_sem, *, simprocAttr]; refine zah (l129_.1 n (by omega) _ _ ?_ ?_ ?_ ?_ _ _ ?_); (iterate 4 (simp -dsimp -implicitDefEqProofs only [go_sem, *, simprocAttr])); simp only [ziP]; intro e m i0; (try simp -dsimp -implicitDefEqProofs only [go_sem, *, simprocAttr]); simp only [zgm] at hK; refine hK _ _ ?_; simp -dsimp -implicitDefEqProofs only [go_sem, *, simprocAttr]) | (have := l132_; simp -dsimp -implicitDefEqProofs only [go_sem, *, simprocAttr]; refine zah (l132_.1 n (by omega) _ _ ?_ ?_ ?_ ?_ _ _ ?_); (iterate 4 (simp -dsimp -implicitDefEqProofs only [go_sem, *, simprocAttr])); simp only [ziP]; intro e m i0 i1; (try simp -dsimp -implicitDefEqProofs only [go_sem, *, simprocAttr]); refine zah (I.1 _ _ ?_ ?_ _ _ hK); (iterate 2 (simp -dsimp -implicitDefEqProofs only [go_sem, *, simprocAttr]))) | ((try simp -dsimp -implicitDefEqProofs only [go_sem, *, simprocAttr]); simp only [zgm] at hK; refine hK _ _ ?_; simp -dsimp -implicitDefEqProofs only [go_sem, *, simprocAttr]) | ((try simp -dsimp -implicitDefEqProofs only [go_sem, *, simprocAttr]); simp only [zgm] at hK; refine hK _ _)
theorem zFA {kk : Nat} {a : (Sl zal)} {sz : Nat} (hg : zM8 sz) {r : Bool} (h : zpH kk sz a = some r) : Ev cfg 20 [(dSl zap a)] (.bool r) := by
 unfold zpH at h
 have E := evT
 obtain ⟨_, h136_, h⟩ := zaa h
 have E := E.and (zIo a (zag h136_))
 rcases zac h with ⟨h137_, h⟩ | ⟨h137_, h⟩
 have b138_ := zaq h137_
 rotate_left
 have b139_ := zam h137_
 rcases zaz h with ⟨r142_, o141_, h⟩ | ⟨q25, o141_, h⟩
 obtain ⟨_, l140_, E⟩ := E.lp (zsJ hg o141_)
 rotate_left
 obtain ⟨_, l143_, E⟩ := E.lp (zsJ hg o141_)
 rotate_left
 all_goals
  obtain rfl := Option.some.inj h
  refine E.s fun n x => ?_
  first | (have := l140_; simp -dsimp -implicitDefEqProofs only [go_sem, func20, f20, *, simprocAttr]; refine zah (l140_.1 n (by omega) _ _ ?_ ?_ _ _ ?_); (iterate 2 (simp -dsimp -implicitDefEqProofs only [go_sem, *, simprocAttr])); simp only [zgm]; intro e m i0; simp -dsimp -implicitDefEqProofs only [go_sem, func20, f20, *, simprocAttr]) | (have := l143_; simp -dsimp -implicitDefEqProofs only [go_sem, func20, f20, *, simprocAttr]; refine zah (l143_.1 n (by omega) _ _ ?_ ?_ _ _ ?_); (iterate 2 (simp -dsimp -implicitDefEqProofs only [go_sem, *, simprocAttr])); simp only [zgm]; intro e m; simp -dsimp -implicitDefEqProofs only [go_sem, func20, f20, *, simprocAttr]) | (simp -dsimp -implicitDefEqProofs only [go_sem, func20, f20, *, simprocAttr])
def zgg (c15 : zan) (K : Ex → St → Option Res) (R : Option Res) : Out (Bool) (Int) → Prop
 | .ret r => ∀ (e : Env) (m : Mem), e 2 = (.bool r) → K .ret ⟨e, m⟩ = R
 | .done q => ∀ (e : Env) (m : Mem), K (.exit 3) ⟨e, m⟩ = R
noncomputable def zuS : Code := zbq f51 [1, 1, 1, 1, 0, 1, 0, 1, 1, 1, 1, 1, 1, 1, 0, 1, 0, 1, 0, 0]
theorem znb {c15 : zan} {sz : Nat} (hg : zM8 sz) {kk : Nat} : ∀ {k : Nat} {s14 : Int} {out : Out (Bool) (Int)}, zcV c15 sz kk k s14 = some out → ∃ N, ∀ n, N ≤ n → ∀ k, N ≤ k → ∀ (e : Env) (m : Mem), zci (e 1) m 1 10 (zbj c15) → e 4 = (.int .i64 s14) → ∀ (K : Ex → St → Option Res) (R : Option Res), zgg c15 K R out → zcj (zbH cfg (dfn cfg n) n zuS) K k ⟨e, m⟩ = R := by
 have ⟨hV, _⟩ := hg
 intro k
 induction k with
 | zero => intro s14 out h; cases h
 | succ k ih => ?_
 intro s14 out h
 have ih := fun x0 {out} => @ih x0 out
 unfold zcV at h
 have E := evT
 rcases zac h with ⟨h1_, h⟩ | ⟨h1_, h⟩
 obtain ⟨y16, h2_, h⟩ := zaa h
 obtain ⟨_, h3_⟩ := zaI h2_
 have h3_ := zax h3_ zao
 rcases zac h with ⟨h4_, h⟩ | ⟨h4_, h⟩
 have b5_ := zaq h4_
 obtain ⟨_, h6_, h⟩ := zaa h
 have E := E.and (hV y16.ann (zag h6_))
 rcases zac h with ⟨h7_, h⟩ | ⟨h7_, h⟩
 obtain ⟨y18, h8_, h⟩ := zaa h
 have h8_ : zhq prog (some (.int .i64 (IntKind.wrap .i64 (s14 - 1)))) (some (.int .i64 s14)) none (dSl zao c15.items) (.slice 77) = pure (dSl zao y18) := zFP h8_ zUD zig
 obtain ⟨y19, h9_, h⟩ := zaa h
 have h9_ : zhq prog (some (.int .i64 s14)) (some (.int .i64 (IntKind.wrap .i64 (s14 + 1)))) none (dSl zao c15.items) (.slice 77) = pure (dSl zao y19) := zFP h9_ zUD zig
 obtain ⟨_, h10_, h⟩ := zaa h
 have E := E.and (zuQ y18 y19 (zag h10_))
 rcases zac h with ⟨h11_, h⟩ | ⟨h11_, h⟩
 rcases zbW h11_ with b12_ | ⟨b12_, b13_⟩
 have b14_ := zaq b12_
 rotate_left
 have b15_ := zam b12_
 rotate_left
 obtain ⟨b16_, b17_⟩ := zaM h11_
 have b18_ := zam b16_
 rotate_left
 rcases zac h with ⟨h19_, h⟩ | ⟨h19_, h⟩
 have b20_ := zaq h19_
 have b21_ := zam b20_
 rotate_left
 have b22_ := zam h19_
 have b23_ := zaq b22_
 rotate_left
 have b24_ := zam h4_
 rotate_left
 rotate_left
 all_goals
  first | (obtain rfl := Option.some.inj h; refine E.l fun n k x => ?_) | refine E.c (ih _ h) fun n k x I => ?_
  intro e m i0 i1 K R hK
  obtain ⟨_, _, _⟩ := i0
  rw [zau]
  conv => lhs; arg 4; whnf
  first | (simp -dsimp -implicitDefEqProofs only [go_sem, *, simprocAttr]; simp only [zgg] at hK; refine hK _ _ ?_; simp -dsimp -implicitDefEqProofs only [go_sem, *, simprocAttr]) | (simp -dsimp -implicitDefEqProofs only [go_sem, *, simprocAttr]; refine zah (I.1 _ _ ?_ ?_ _ _ hK); (iterate 2 (simp -dsimp -implicitDefEqProofs only [go_sem, *, simprocAttr]))) | (simp -dsimp -implicitDefEqProofs only [go_sem, *, simprocAttr]; simp only [zgg] at hK; refine hK _ _)
def zgh (c2 : zan) (K : Ex → St → Option Res) (R : Option Res) : Out (Bool) (Int) → Prop
 | .ret r => ∀ (e : Env) (m : Mem), e 2 = (.bool r) → K .ret ⟨e, m⟩ = R
 | .done q => ∀ (e : Env) (m : Mem), zci (e 1) m 1 10 (zbj c2) → K (.exit 0) ⟨e, m⟩ = R
noncomputable def zuT : Code := zbq f51 [1, 1, 1, 0, 1, 0, 0]
theorem znc {c2 : zan} {sz : Nat} (hg : zM8 sz) {kk : Nat} : ∀ {k : Nat} {s1 : Int} {out : Out (Bool) (Int)}, zdq c2 sz kk k s1 = some out → ∃ N, ∀ n, N ≤ n → ∀ k, N ≤ k → ∀ (e : Env) (m : Mem), zci (e 1) m 1 10 (zbj c2) → e 3 = (.int .i64 s1) → ∀ (K : Ex → St → Option Res) (R : Option Res), zgh c2 K R out → zcj (zbH cfg (dfn cfg n) n zuT) K k ⟨e, m⟩ = R := by
 have ⟨hV, _⟩ := hg
 intro k
 induction k with
 | zero => intro s1 out h; cases h
 | succ k ih => ?_
 intro s1 out h
 have ih := fun x0 {out} => @ih x0 out
 unfold zdq at h
 have E := evT
 rcases zac h with ⟨h25_, h⟩ | ⟨h25_, h⟩
 obtain ⟨y3, h26_, h⟩ := zaa h
 obtain ⟨_, h27_⟩ := zaI h26_
 have h27_ := zax h27_ (cSl zap)
 rcases zac h with ⟨h28_, h⟩ | ⟨h28_, h⟩
 have b29_ := zaq h28_
 obtain ⟨_, h30_, h⟩ := zaa h
 have E := E.and (hV y3 (zag h30_))
 rcases zac h with ⟨h31_, h⟩ | ⟨h31_, h⟩
 have b32_ := zaq h31_
 rotate_left
 have b33_ := zam h31_
 rotate_left
 have b34_ := zam h28_
 rotate_left
 rotate_left
 all_goals
  first | (obtain rfl := Option.some.inj h; refine E.l fun n k x => ?_) | refine E.c (ih _ h) fun n k x I => ?_
  intro e m i0 i1 K R hK
  obtain ⟨_, _, _⟩ := i0
  rw [zau]
  conv => lhs; arg 4; whnf
  first | (simp -dsimp -implicitDefEqProofs only [go_sem, *, simprocAttr]; simp only [zgh] at hK; refine hK _ _ ?_; simp -dsimp -implicitDefEqProofs only [go_sem, *, simprocAttr]) | (simp -dsimp -implicitDefEqProofs only [go_sem, *, simprocAttr]; refine zah (I.1 _ _ ?_ ?_ _ _ hK); (iterate 2 (simp -dsimp -implicitDefEqProofs only [go_sem, *, simprocAttr]))) | (simp -dsimp -implicitDefEqProofs only [go_sem, *, simprocAttr]; simp only [zgh] at hK; refine hK _ _ ?_; simp -dsimp -implicitDefEqProofs only [go_sem, *, simprocAttr])
theorem zyr {kk : Nat} {a : zan} {sz : Nat} (hg : zM8 sz) {r : Bool} (h : zjY kk sz a = some r) : Ev cfg 51 [(.agg (zbj a))] (.bool r) := by
 unfold zjY at h
 have E := evT
 rcases zac h with ⟨h35_, h⟩ | ⟨h35_, h⟩
 have E := E.and (zpP a)
 rcases Bool.eq_false_or_eq_true ((decide (1 ≤ a.row.table))) with h36_ | h36_
 rcases Bool.eq_false_or_eq_true ((decide (1 ≤ a.row.seq))) with h37_ | h37_
 rcases Bool.eq_false_or_eq_true (((a.args.l.length : Int) == 0)) with h38_ | h38_
 rotate_left
 rotate_left
 rotate_left
 rotate_left
 rcases zac h with ⟨h39_, h⟩ | ⟨h39_, h⟩
 have b40_ := zaq h39_
 rcases zbC b40_ with b41_ | ⟨b41_, b42_⟩
 rotate_left
 rotate_left
 have b43_ := zam h39_
 obtain ⟨b44_, b45_⟩ := zb2 b43_
 rcases zaz h with ⟨r48_, o47_, h⟩ | ⟨q5, o47_, h⟩
 obtain ⟨_, l46_, E⟩ := E.lp (znc hg o47_)
 rotate_left
 obtain ⟨_, l49_, E⟩ := E.lp (znc hg o47_)
 rcases zac h with ⟨h50_, h⟩ | ⟨h50_, h⟩
 have E := E.and (zpP a)
 rcases zac h with ⟨h51_, h⟩ | ⟨h51_, h⟩
 obtain ⟨b52_, b53_⟩ := zb2 h51_
 obtain ⟨y6, h54_, h⟩ := zaa h
 have h54_ := zax h54_ (cSl zap)
 obtain ⟨y7, h55_, h⟩ := zaa h
 have h55_ := zax h55_ (cSl zap)
 obtain ⟨_, h56_, h⟩ := zaa h
 have E := E.and (zIn y6 y7 (zag h56_))
 rotate_left
 rcases zbC h51_ with b57_ | ⟨b57_, b58_⟩
 rotate_left
 rotate_left
 rcases zac h with ⟨h59_, h⟩ | ⟨h59_, h⟩
 have E := E.and (zpP a)
 rcases zac h with ⟨h60_, h⟩ | ⟨h60_, h⟩
 obtain ⟨b61_, b62_⟩ := zb2 h60_
 obtain ⟨y9, h63_, h⟩ := zaa h
 have h63_ := zax h63_ (cSl zap)
 rcases zac h with ⟨h64_, h⟩ | ⟨h64_, h⟩
 obtain ⟨_, h65_, h⟩ := zaa h
 have E := E.and (zsM y9 (zag h65_))
 rcases zac h with ⟨h66_, h⟩ | ⟨h66_, h⟩
 have b67_ := zaq h66_
 have E := E.and (zws y9)
 rotate_left
 have b68_ := zam h66_
 rotate_left
 have E := E.and (zws y9)
 rotate_left
 rcases zbC h60_ with b69_ | ⟨b69_, b70_⟩
 rotate_left
 rotate_left
 rcases zac h with ⟨h71_, h⟩ | ⟨h71_, h⟩
 have E := E.and (zpP a)
 rcases zac h with ⟨h72_, h⟩ | ⟨h72_, h⟩
 obtain ⟨b73_, b74_⟩ := zb2 h72_
 obtain ⟨y11, h75_, h⟩ := zaa h
 have h75_ := zax h75_ (cSl zap)
 obtain ⟨_, h76_, h⟩ := zaa h
 have E := E.and (zsM y11 (zag h76_))
 rotate_left
 rcases zbC h72_ with b77_ | ⟨b77_, b78_⟩
 rotate_left
 rotate_left
 rcases zac h with ⟨h79_, h⟩ | ⟨h79_, h⟩
 rcases zac h with ⟨h80_, h⟩ | ⟨h80_, h⟩
 have b81_ := zaq h80_
 obtain ⟨b82_, b83_⟩ := zaM b81_
 obtain ⟨b84_, b85_⟩ := zaM b82_
 obtain ⟨_, h86_, h⟩ := zaa h
 have E := E.and (zFG a.func a.items a.op a.bound (zag h86_))
 rcases zac h with ⟨h87_, h⟩ | ⟨h87_, h⟩
 have b88_ := zaq h87_
 rotate_left
 have b89_ := zam h87_
 rcases zaz h with ⟨r92_, o91_, h⟩ | ⟨q21, o91_, h⟩
 obtain ⟨_, l90_, E⟩ := E.lp (znb hg o91_)
 rotate_left
 obtain ⟨_, l93_, E⟩ := E.lp (znb hg o91_)
 rotate_left
 have b94_ := zam h80_
 rcases zbW b94_ with b95_ | ⟨b95_, b96_⟩
 rcases zbW b95_ with b97_ | ⟨b97_, b98_⟩
 rotate_left
 rotate_left
 obtain ⟨b99_, b100_⟩ := zaM b95_
 rotate_left
 rotate_left
 all_goals
  obtain rfl := Option.some.inj h
  refine E.s fun n x => ?_
  first | (have := l46_; simp -dsimp -implicitDefEqProofs only [go_sem, func51, f51, *, simprocAttr]; refine zah (l46_.1 n (by omega) _ _ ?_ ?_ _ _ ?_); (iterate 2 (simp -dsimp -implicitDefEqProofs only [go_sem, *, simprocAttr])); simp only [zgh]; intro e m i0; simp -dsimp -implicitDefEqProofs only [go_sem, func51, f51, *, simprocAttr]) | (have := l49_; simp -dsimp -implicitDefEqProofs only [go_sem, func51, f51, *, simprocAttr]; refine zah (l49_.1 n (by omega) _ _ ?_ ?_ _ _ ?_); (iterate 2 (simp -dsimp -implicitDefEqProofs only [go_sem, *, simprocAttr])); simp only [zgh]; intro e m i0; obtain ⟨_, _, _⟩ := i0; first | (have := l90_; (try simp -dsimp -implicitDefEqProofs only [go_sem, func51, f51, *, simprocAttr]); refine zah (l90_.1 n (by omega) _ _ ?_ ?_ _ _ ?_); (iterate 2 (simp -dsimp -implicitDefEqProofs only [go_sem, *, simprocAttr])); simp only [zgg]; intro e m i0; simp -dsimp -implicitDefEqProofs only [go_sem, func51, f51, *, simprocAttr]) | (have := l93_; (try simp -dsimp -implicitDefEqProofs only [go_sem, func51, f51, *, simprocAttr]); refine zah (l93_.1 n (by omega) _ _ ?_ ?_ _ _ ?_); (iterate 2 (simp -dsimp -implicitDefEqProofs only [go_sem, *, simprocAttr])); simp only [zgg]; intro e m; simp -dsimp -implicitDefEqProofs only [go_sem, func51, f51, *, simprocAttr]) | (simp -dsimp -implicitDefEqProofs only [go_sem, func51, f51, *, simprocAttr])) | (simp -dsimp -implicitDefEqProofs only [go_sem, func51, f51, *, simprocAttr])
theorem zAS : ∀ s : Nat, s < big → zM8 s := by
 intro s
 induction s with
 | zero => intro _; exact ⟨fun _ h => absurd h (by omega), fun _ h => absurd h (by omega)⟩
 | succ s ih =>
   intro hb
   have hg := ih (by omega)
   exact ⟨
    fun a h => zFA (sz := s) hg (zzB (kk := s + 1) (sz := s) (by omega) (by omega) (by omega)),
    fun a h => zyr (sz := s) hg (zuM (kk := s + 1) (sz := s) (by omega) (by omega) (by omega))⟩
theorem zFH (a : (Sl zal)) (h : zak a.l < big - 1) : Ev cfg 20 [(dSl zap a)] (.bool (zbZ a)) := (zAS (big - 1) (by unfold big; omega)).1 a h
end Go.Proofs.Tryz
set_option maxRecDepth 100000
set_option maxHeartbeats 4000000
set_option linter.unusedSimpArgs false
set_option linter.unusedVariables false
namespace Go.Proofs.Tryz
open Go.Ev
theorem zpv {kk : Nat} {a : zai} {r : Bool} (h : zhd kk a = some r) : Ev cfg 60 [(.agg (zar a))] (.bool r) := by
 unfold zhd at h
 have E := evT
 rcases Bool.eq_false_or_eq_true ((decide (64 < a.exp))) with h1_ | h1_
 rotate_left
 rotate_left
 all_goals
  obtain rfl := Option.some.inj h
  refine E.s fun n x => ?_
  simp -dsimp -implicitDefEqProofs only [go_sem, func60, f60, *, simprocAttr]
theorem zpQ (a : zai) : Ev cfg 60 [(.agg (zar a))] (.bool (zp6 a)) := zpv (zmJ 0 a)
theorem zmH {kk : Nat} {a : zal} {r : Bool} (h : zf1 kk a = some r) : Ev cfg 115 [(.agg (zap a))] (.bool r) := by
 unfold zf1 at h
 have E := evT
 obtain rfl := Option.some.inj h
 refine E.s fun n x => ?_
 simp -dsimp -implicitDefEqProofs only [go_sem, func115, f115, *, simprocAttr]
theorem zmQ (a : zal) : Ev cfg 115 [(.agg (zap a))] (.bool (zy8 a)) := zmH (zk9 0 a)
def za2 (c1 : Sl zai) (c2 : Int) (K : Ex → St → Option Res) (R : Option Res) : Out (Int) (Int) → Prop
 | .ret r => ∀ (e : Env) (m : Mem), e 4 = (.int .i64 r) → K .ret ⟨e, m⟩ = R
 | .done q => ∀ (e : Env) (m : Mem), K (.exit 0) ⟨e, m⟩ = R
noncomputable def zfr : Code := zbq f111 [1, 0, 1, 0, 0]
theorem zcC {c1 : Sl zai} {c2 : Int} {kk : Nat} : ∀ {k : Nat} {s3 : Int} {out : Out (Int) (Int)}, zaJ c1 c2 kk k s3 = some out → ∃ N, ∀ n, N ≤ n → ∀ k, N ≤ k → ∀ (e : Env) (m : Mem), e 0 = (dSl zar c1) → e 1 = (.fn (.func 60) [] []) → e 7 = (.int .i64 c2) → e 8 = (.int .i64 s3) → ∀ (K : Ex → St → Option Res) (R : Option Res), za2 c1 c2 K R out → zcj (zbH cfg (dfn cfg n) n zfr) K k ⟨e, m⟩ = R := by
 intro k
 induction k with
 | zero => intro s3 out h; cases h
 | succ k ih => ?_
 intro s3 out h
 have ih := fun x0 {out} => @ih x0 out
 unfold zaJ at h
 have E := evT
 rcases zac h with ⟨h1_, h⟩ | ⟨h1_, h⟩
 obtain ⟨y4, h2_, h⟩ := zaa h
 obtain ⟨_, h3_⟩ := zaI h2_
 have h3_ := zax h3_ zar
 have E := E.and (zpQ y4)
 rcases zac h with ⟨h4_, h⟩ | ⟨h4_, h⟩
 rotate_left
 rotate_left
 rotate_left
 all_goals
  first | (obtain rfl := Option.some.inj h; refine E.l fun n k x => ?_) | refine E.c (ih _ h) fun n k x I => ?_
  intro e m i0 i1 i2 i3 K R hK
  rw [zau]
  conv => lhs; arg 4; whnf
  first | (simp -dsimp -implicitDefEqProofs only [go_sem, *, simprocAttr]; simp only [za2] at hK; refine hK _ _ ?_; simp -dsimp -implicitDefEqProofs only [go_sem, *, simprocAttr]) | (simp -dsimp -implicitDefEqProofs only [go_sem, *, simprocAttr]; refine zah (I.1 _ _ ?_ ?_ ?_ ?_ _ _ hK); (iterate 4 (simp -dsimp -implicitDefEqProofs only [go_sem, *, simprocAttr]))) | (simp -dsimp -implicitDefEqProofs only [go_sem, *, simprocAttr]; simp only [za2] at hK; refine hK _ _)
theorem zfV {kk : Nat} {a : (Sl zai)} {r : Int} (h : zbu kk a = some r) : Ev cfg 111 [(dSl zar a), (.fn (.func 60) [] [])] (.int .i64 r) := by
 unfold zbu at h
 have E := evT
 rcases zaz h with ⟨r7_, o6_, h⟩ | ⟨q5, o6_, h⟩
 obtain ⟨_, l5_, E⟩ := E.lp (zcC o6_)
 rotate_left
 obtain ⟨_, l8_, E⟩ := E.lp (zcC o6_)
 rotate_left
 all_goals
  obtain rfl := Option.some.inj h
  refine E.s fun n x => ?_
  first | (have := l5_; simp -dsimp -implicitDefEqProofs only [go_sem, func111, f111, *, simprocAttr]; refine zah (l5_.1 n (by omega) _ _ ?_ ?_ ?_ ?_ _ _ ?_); (iterate 4 (simp -dsimp -implicitDefEqProofs only [go_sem, *, simprocAttr])); simp only [za2]; intro e m i0; simp -dsimp -implicitDefEqProofs only [go_sem, func111, f111, *, simprocAttr]) | (have := l8_; simp -dsimp -implicitDefEqProofs only [go_sem, func111, f111, *, simprocAttr]; refine zah (l8_.1 n (by omega) _ _ ?_ ?_ ?_ ?_ _ _ ?_); (iterate 4 (simp -dsimp -implicitDefEqProofs only [go_sem, *, simprocAttr])); simp only [za2]; intro e m; simp -dsimp -implicitDefEqProofs only [go_sem, func111, f111, *, simprocAttr])
theorem zfW (a : (Sl zai)) (h : a.l.length < big - 1) : Ev cfg 111 [(dSl zar a), (.fn (.func 60) [] [])] (.int .i64 (zwy zp6 a)) := zfV (zfk (kk := big) a h (by omega))
theorem zfe {kk : Nat} {a : (Sl zai)} {r : Bool} (h : zbo kk a = some r) : Ev cfg 59 [(dSl zar a), (.fn (.func 60) [] [])] (.bool r) := by
 unfold zbo at h
 have E := evT
 obtain ⟨_, h1_, h⟩ := zaa h
 have E := E.and (zfW a (zag h1_))
 obtain rfl := Option.some.inj h
 refine E.s fun n x => ?_
 simp -dsimp -implicitDefEqProofs only [go_sem, func59, f59, *, simprocAttr]
theorem zfq (a : (Sl zai)) (h : a.l.length < big - 1) : Ev cfg 59 [(dSl zar a), (.fn (.func 60) [] [])] (.bool (zuY zp6 a)) := zfe (zeE (kk := big) a h (by omega))
theorem zrn {kk : Nat} {a : zal} {r : Bool} (h : zgi kk a = some r) : Ev cfg 58 [(.agg (zap a))] (.bool r) := by
 unfold zgi at h
 have E := evT
 rcases zac h with ⟨h1_, h⟩ | ⟨h1_, h⟩
 have b2_ := zaq h1_
 obtain ⟨_, h3_, h⟩ := zaa h
 have E := E.and (zfq a.factors (zag h3_))
 rotate_left
 have b4_ := zam h1_
 rotate_left
 all_goals
  obtain rfl := Option.some.inj h
  refine E.s fun n x => ?_
  simp -dsimp -implicitDefEqProofs only [go_sem, func58, f58, *, simprocAttr]
theorem zrE (a : zal) (h : zcF a < big - 1) : Ev cfg 58 [(.agg (zap a))] (.bool (zp5 a)) := zrn (zow (kk := big) a h (by omega))
def za4 (c1 : Sl zal) (c2 : Int) (K : Ex → St → Option Res) (R : Option Res) : Out (Int) (Int) → Prop
 | .ret r => ∀ (e : Env) (m : Mem), e 4 = (.int .i64 r) → K .ret ⟨e, m⟩ = R
 | .done q => ∀ (e : Env) (m : Mem), K (.exit 0) ⟨e, m⟩ = R
noncomputable def zf3 : Code := zbq f110 [1, 0, 1, 0, 0]
theorem zcX {c1 : Sl zal} {c2 : Int} {kk : Nat} : ∀ {k : Nat} {s3 : Int} {out : Out (Int) (Int)}, zaY c1 c2 kk k s3 = some out → ∃ N, ∀ n, N ≤ n → ∀ k, N ≤ k → ∀ (e : Env) (m : Mem), e 0 = (dSl zap c1) → e 1 = (.fn (.func 58) [] []) → e 7 = (.int .i64 c2) → e 8 = (.int .i64 s3) → ∀ (K : Ex → St → Option Res) (R : Option Res), za4 c1 c2 K R out → zcj (zbH cfg (dfn cfg n) n zf3) K k ⟨e, m⟩ = R := by
 intro k
 induction k with
 | zero => intro s3 out h; cases h
 | succ k ih => ?_
 intro s3 out h
 have ih := fun x0 {out} => @ih x0 out
 unfold zaY at h
 have E := evT
 rcases zac h with ⟨h1_, h⟩ | ⟨h1_, h⟩
 obtain ⟨y4, h2_, h⟩ := zaa h
 obtain ⟨_, h3_⟩ := zaI h2_
 have h3_ := zax h3_ zap
 obtain ⟨_, h4_, h⟩ := zaa h
 have E := E.and (zrE y4 (zag h4_))
 rcases zac h with ⟨h5_, h⟩ | ⟨h5_, h⟩
 rotate_left
 rotate_left
 rotate_left
 all_goals
  first | (obtain rfl := Option.some.inj h; refine E.l fun n k x => ?_) | refine E.c (ih _ h) fun n k x I => ?_
  intro e m i0 i1 i2 i3 K R hK
  rw [zau]
  conv => lhs; arg 4; whnf
  first | (simp -dsimp -implicitDefEqProofs only [go_sem, *, simprocAttr]; simp only [za4] at hK; refine hK _ _ ?_; simp -dsimp -implicitDefEqProofs only [go_sem, *, simprocAttr]) | (simp -dsimp -implicitDefEqProofs only [go_sem, *, simprocAttr]; refine zah (I.1 _ _ ?_ ?_ ?_ ?_ _ _ hK); (iterate 4 (simp -dsimp -implicitDefEqProofs only [go_sem, *, simprocAttr]))) | (simp -dsimp -implicitDefEqProofs only [go_sem, *, simprocAttr]; simp only [za4] at hK; refine hK _ _)
theorem zgy {kk : Nat} {a : (Sl zal)} {r : Int} (h : zbG kk a = some r) : Ev cfg 110 [(dSl zap a), (.fn (.func 58) [] [])] (.int .i64 r) := by
 unfold zbG at h
 have E := evT
 rcases zaz h with ⟨r8_, o7_, h⟩ | ⟨q6, o7_, h⟩
 obtain ⟨_, l6_, E⟩ := E.lp (zcX o7_)
 rotate_left
 obtain ⟨_, l9_, E⟩ := E.lp (zcX o7_)
 rotate_left
 all_goals
  obtain rfl := Option.some.inj h
  refine E.s fun n x => ?_
  first | (have := l6_; simp -dsimp -implicitDefEqProofs only [go_sem, func110, f110, *, simprocAttr]; refine zah (l6_.1 n (by omega) _ _ ?_ ?_ ?_ ?_ _ _ ?_); (iterate 4 (simp -dsimp -implicitDefEqProofs only [go_sem, *, simprocAttr])); simp only [za4]; intro e m i0; simp -dsimp -implicitDefEqProofs only [go_sem, func110, f110, *, simprocAttr]) | (have := l9_; simp -dsimp -implicitDefEqProofs only [go_sem, func110, f110, *, simprocAttr]; refine zah (l9_.1 n (by omega) _ _ ?_ ?_ ?_ ?_ _ _ ?_); (iterate 4 (simp -dsimp -implicitDefEqProofs only [go_sem, *, simprocAttr])); simp only [za4]; intro e m; simp -dsimp -implicitDefEqProofs only [go_sem, func110, f110, *, simprocAttr])
theorem zgz (a : (Sl zal)) (h : zak a.l < big - 1) : Ev cfg 110 [(dSl zap a), (.fn (.func 58) [] [])] (.int .i64 (zwy zp5 a)) := zgy (zf0 (kk := big) a h (by omega))
theorem zfY {kk : Nat} {a : (Sl zal)} {r : Bool} (h : zby kk a = some r) : Ev cfg 57 [(dSl zap a), (.fn (.func 58) [] [])] (.bool r) := by
 unfold zby at h
 have E := evT
 obtain ⟨_, h1_, h⟩ := zaa h
 have E := E.and (zgz a (zag h1_))
 obtain rfl := Option.some.inj h
 refine E.s fun n x => ?_
 simp -dsimp -implicitDefEqProofs only [go_sem, func57, f57, *, simprocAttr]
theorem zf2 (a : (Sl zal)) (h : zak a.l < big - 1) : Ev cfg 57 [(dSl zap a), (.fn (.func 58) [] [])] (.bool (zuY zp5 a)) := zfY (zfz (kk := big) a h (by omega))
theorem ztb {kk : Nat} {a : (Sl zal)} {r : Bool} (h : zhe kk a = some r) : Ev cfg 22 [(dSl zap a)] (.bool r) := by
 unfold zhe at h
 have E := evT
 rcases zac h with ⟨h1_, h⟩ | ⟨h1_, h⟩
 have b2_ := zaq h1_
 obtain ⟨_, h3_, h⟩ := zaa h
 have E := E.and (zso a (zag h3_))
 rcases zac h with ⟨h4_, h⟩ | ⟨h4_, h⟩
 have b5_ := zaq h4_
 obtain ⟨_, h6_, h⟩ := zaa h
 have E := E.and (zvV a (zag h6_))
 rcases zac h with ⟨h7_, h⟩ | ⟨h7_, h⟩
 rotate_left
 obtain ⟨_, h8_, h⟩ := zaa h
 have E := E.and (zf2 a (zag h8_))
 rotate_left
 have b9_ := zam h4_
 rotate_left
 have b10_ := zam h1_
 rotate_left
 all_goals
  obtain rfl := Option.some.inj h
  refine E.s fun n x => ?_
  simp -dsimp -implicitDefEqProofs only [go_sem, func22, f22, *, simprocAttr]
theorem ztk (a : (Sl zal)) (h : zak a.l < big - 1) : Ev cfg 22 [(dSl zap a)] (.bool (zof a)) := ztb (zqw (kk := big) a h (by omega))
def za0 (c1 : Sl zal) (c2 : Int) (K : Ex → St → Option Res) (R : Option Res) : Out (Int) (Int) → Prop
 | .ret r => ∀ (e : Env) (m : Mem), e 4 = (.int .i64 r) → K .ret ⟨e, m⟩ = R
 | .done q => ∀ (e : Env) (m : Mem), K (.exit 0) ⟨e, m⟩ = R
noncomputable def ze7 : Code := zbq f110 [1, 0, 1, 0, 0]
theorem zcx {c1 : Sl zal} {c2 : Int} {kk : Nat} : ∀ {k : Nat} {s3 : Int} {out : Out (Int) (Int)}, zaH c1 c2 kk k s3 = some out → ∃ N, ∀ n, N ≤ n → ∀ k, N ≤ k → ∀ (e : Env) (m : Mem), e 0 = (dSl zap c1) → e 1 = (.fn (.func 115) [] []) → e 7 = (.int .i64 c2) → e 8 = (.int .i64 s3) → ∀ (K : Ex → St → Option Res) (R : Option Res), za0 c1 c2 K R out → zcj (zbH cfg (dfn cfg n) n ze7) K k ⟨e, m⟩ = R := by
 intro k
 induction k with
 | zero => intro s3 out h; cases h
 | succ k ih => ?_
 intro s3 out h
 have ih := fun x0 {out} => @ih x0 out
 unfold zaH at h
 have E := evT
 rcases zac h with ⟨h1_, h⟩ | ⟨h1_, h⟩
 obtain ⟨y4, h2_, h⟩ := zaa h
 obtain ⟨_, h3_⟩ := zaI h2_
 have h3_ := zax h3_ zap
 have E := E.and (zmQ y4)
 rcases zac h with ⟨h4_, h⟩ | ⟨h4_, h⟩
 rotate_left
 rotate_left
 rotate_left
 all_goals
  first | (obtain rfl := Option.some.inj h; refine E.l fun n k x => ?_) | refine E.c (ih _ h) fun n k x I => ?_
  intro e m i0 i1 i2 i3 K R hK
  rw [zau]
  conv => lhs; arg 4; whnf
  first | (simp -dsimp -implicitDefEqProofs only [go_sem, *, simprocAttr]; simp only [za0] at hK; refine hK _ _ ?_; simp -dsimp -implicitDefEqProofs only [go_sem, *, simprocAttr]) | (simp -dsimp -implicitDefEqProofs only [go_sem, *, simprocAttr]; refine zah (I.1 _ _ ?_ ?_ ?_ ?_ _ _ hK); (iterate 4 (simp -dsimp -implicitDefEqProofs only [go_sem, *, simprocAttr]))) | (simp -dsimp -implicitDefEqProofs only [go_sem, *, simprocAttr]; simp only [za0] at hK; refine hK _ _)
theorem zfJ {kk : Nat} {a : (Sl zal)} {r : Int} (h : zbt kk a = some r) : Ev cfg 110 [(dSl zap a), (.fn (.func 115) [] [])] (.int .i64 r) := by
 unfold zbt at h
 have E := evT
 rcases zaz h with ⟨r7_, o6_, h⟩ | ⟨q5, o6_, h⟩
 obtain ⟨_, l5_, E⟩ := E.lp (zcx o6_)
 rotate_left
 obtain ⟨_, l8_, E⟩ := E.lp (zcx o6_)
 rotate_left
 all_goals
  obtain rfl := Option.some.inj h
  refine E.s fun n x => ?_
  first | (have := l5_; simp -dsimp -implicitDefEqProofs only [go_sem, func110, f110, *, simprocAttr]; refine zah (l5_.1 n (by omega) _ _ ?_ ?_ ?_ ?_ _ _ ?_); (iterate 4 (simp -dsimp -implicitDefEqProofs only [go_sem, *, simprocAttr])); simp only [za0]; intro e m i0; simp -dsimp -implicitDefEqProofs only [go_sem, func110, f110, *, simprocAttr]) | (have := l8_; simp -dsimp -implicitDefEqProofs only [go_sem, func110, f110, *, simprocAttr]; refine zah (l8_.1 n (by omega) _ _ ?_ ?_ ?_ ?_ _ _ ?_); (iterate 4 (simp -dsimp -implicitDefEqProofs only [go_sem, *, simprocAttr])); simp only [za0]; intro e m; simp -dsimp -implicitDefEqProofs only [go_sem, func110, f110, *, simprocAttr])
theorem zfN (a : (Sl zal)) (h : a.l.length < big - 1) : Ev cfg 110 [(dSl zap a), (.fn (.func 115) [] [])] (.int .i64 (zwy zy8 a)) := zfJ (ze4 (kk := big) a h (by omega))
theorem ze1 {kk : Nat} {a : (Sl zal)} {r : Bool} (h : zbi kk a = some r) : Ev cfg 57 [(dSl zap a), (.fn (.func 115) [] [])] (.bool r) := by
 unfold zbi at h
 have E := evT
 obtain ⟨_, h1_, h⟩ := zaa h
 have E := E.and (zfN a (zag h1_))
 obtain rfl := Option.some.inj h
 refine E.s fun n x => ?_
 simp -dsimp -implicitDefEqProofs only [go_sem, func57, f57, *, simprocAttr]
theorem ze5 (a : (Sl zal)) (h : a.l.length < big - 1) : Ev cfg 57 [(dSl zap a), (.fn (.func 115) [] [])] (.bool (zuY zy8 a)) := ze1 (zeu (kk := big) a h (by omega))
theorem zos {kk : Nat} {a : (Sl zal)} {r : Bool} (h : zeS kk a = some r) : Ev cfg 71 [(dSl zap a)] (.bool r) := by
 unfold zeS at h
 have E := evT
 obtain ⟨_, h1_, h⟩ := zaa h
 have E := E.and (ze5 a (zag h1_))
 obtain rfl := Option.some.inj h
 refine E.s fun n x => ?_
 simp -dsimp -implicitDefEqProofs only [go_sem, func71, f71, *, simprocAttr]
theorem zoz (a : (Sl zal)) (h : a.l.length < big - 1) : Ev cfg 71 [(dSl zap a)] (.bool (zem a)) := zos (zmw (kk := big) a h (by omega))
end Go.Proofs.Tryz
set_option maxRecDepth 100000
set_option maxHeartbeats 4000000
set_option linter.unusedSimpArgs false
set_option linter.unusedVariables false
namespace Go.Proofs.Tryz
open Go.Ev
def zaK (c1 : Sl zad) (K : Ex → St → Option Res) (R : Option Res) : Out (Bool) (Int) → Prop
 | .ret r => ∀ (e : Env) (m : Mem), e 4 = (.bool r) → K .ret ⟨e, m⟩ = R
 | .done q => ∀ (e : Env) (m : Mem), K (.exit 0) ⟨e, m⟩ = R
noncomputable def zd0 : Code := zbq f74 [1, 0, 1, 0, 0]
theorem zb8 {c1 : Sl zad} {kk : Nat} : ∀ {k : Nat} {s2 : Int} {out : Out (Bool) (Int)}, zas c1 kk k s2 = some out → ∃ N, ∀ n, N ≤ n → ∀ k, N ≤ k → ∀ (e : Env) (m : Mem), e 0 = (dSl zao c1) → e 1 = (.fn (.func 67) [] []) → e 5 = (.int .i64 s2) → ∀ (K : Ex → St → Option Res) (R : Option Res), zaK c1 K R out → zcj (zbH cfg (dfn cfg n) n zd0) K k ⟨e, m⟩ = R := by
 intro k
 induction k with
 | zero => intro s2 out h; cases h
 | succ k ih => ?_
 intro s2 out h
 have ih := fun x0 {out} => @ih x0 out
 unfold zas at h
 have E := evT
 rcases zac h with ⟨h1_, h⟩ | ⟨h1_, h⟩
 obtain ⟨y3, h2_, h⟩ := zaa h
 obtain ⟨_, h3_⟩ := zaI h2_
 have h3_ := zax h3_ zao
 obtain ⟨y4, h4_, h⟩ := zaa h
 obtain ⟨_, h5_⟩ := zaI h4_
 have h5_ := zax h5_ zao
 obtain ⟨_, h6_, h⟩ := zaa h
 have E := E.and (znX y3 y4 (zag h6_))
 rcases zac h with ⟨h7_, h⟩ | ⟨h7_, h⟩
 rotate_left
 rotate_left
 rotate_left
 all_goals
  first | (obtain rfl := Option.some.inj h; refine E.l fun n k x => ?_) | refine E.c (ih _ h) fun n k x I => ?_
  intro e m i0 i1 i2 K R hK
  rw [zau]
  conv => lhs; arg 4; whnf
  first | (simp -dsimp -implicitDefEqProofs only [go_sem, *, simprocAttr]; simp only [zaK] at hK; refine hK _ _ ?_; simp -dsimp -implicitDefEqProofs only [go_sem, *, simprocAttr]) | (simp -dsimp -implicitDefEqProofs only [go_sem, *, simprocAttr]; refine zah (I.1 _ _ ?_ ?_ ?_ _ _ hK); (iterate 3 (simp -dsimp -implicitDefEqProofs only [go_sem, *, simprocAttr]))) | (simp -dsimp -implicitDefEqProofs only [go_sem, *, simprocAttr]; simp only [zaK] at hK; refine hK _ _)
theorem zeo {kk : Nat} {a : (Sl zad)} {r : Bool} (h : zba kk a = some r) : Ev cfg 74 [(dSl zao a), (.fn (.func 67) [] [])] (.bool r) := by
 unfold zba at h
 have E := evT
 rcases zaz h with ⟨r10_, o9_, h⟩ | ⟨q6, o9_, h⟩
 obtain ⟨_, l8_, E⟩ := E.lp (zb8 o9_)
 rotate_left
 obtain ⟨_, l11_, E⟩ := E.lp (zb8 o9_)
 rotate_left
 all_goals
  obtain rfl := Option.some.inj h
  refine E.s fun n x => ?_
  first | (have := l8_; simp -dsimp -implicitDefEqProofs only [go_sem, func74, f74, *, simprocAttr]; refine zah (l8_.1 n (by omega) _ _ ?_ ?_ ?_ _ _ ?_); (iterate 3 (simp -dsimp -implicitDefEqProofs only [go_sem, *, simprocAttr])); simp only [zaK]; intro e m i0; simp -dsimp -implicitDefEqProofs only [go_sem, func74, f74, *, simprocAttr]) | (have := l11_; simp -dsimp -implicitDefEqProofs only [go_sem, func74, f74, *, simprocAttr]; refine zah (l11_.1 n (by omega) _ _ ?_ ?_ ?_ _ _ ?_); (iterate 3 (simp -dsimp -implicitDefEqProofs only [go_sem, *, simprocAttr])); simp only [zaK]; intro e m; simp -dsimp -implicitDefEqProofs only [go_sem, func74, f74, *, simprocAttr])
theorem zev (a : (Sl zad)) (h : 8 * za9 a.l + 5 < big - 1) : Ev cfg 74 [(dSl zao a), (.fn (.func 67) [] [])] (.bool (zqL a)) := zeo (zdY (kk := big) a h (by omega))
end Go.Proofs.Tryz
set_option maxRecDepth 100000
set_option maxHeartbeats 4000000
set_option linter.unusedSimpArgs false
set_option linter.unusedVariables false
namespace Go.Proofs.Tryz
open Go.Ev
theorem zqm {kk : Nat} {a : zad} {u0 : Val} {u1 : Int} {r : Bool × Val × Int} (h : zdZ kk a u0 u1 = some r) : ∃ N, ∀ n, N ≤ n → ∀ g0_ g1_, dfn cfg n 118 [(.agg (zao a)), (.ptr (.arg 0) g0_ 0 0), (.ptr (.arg 1) g1_ 0 0)] [.rows g0_ false true 3 [zhj u0], .rows g1_ false true 1 [[(.int .i64 u1)]]] = some ⟨(.bool r.1), [.rows g0_ false true 3 [zhj r.2.1], .rows g1_ false true 1 [[(.int .i64 r.2.2)]]], []⟩ := by
 unfold zdZ at h
 have E := evT
 have E := E.and (zpO a.value)
 rcases Bool.eq_false_or_eq_true (((zbS a.value))) with h1_ | h1_
 rcases Bool.eq_false_or_eq_true ((a.value.kind != u0.kind)) with h2_ | h2_
 rcases Bool.eq_false_or_eq_true ((u1 == 0)) with h3_ | h3_
 rotate_left
 rotate_left
 rcases Bool.eq_false_or_eq_true ((u1 == 0)) with h4_ | h4_
 rotate_left
 rotate_left
 rcases Bool.eq_false_or_eq_true ((u1 == 0)) with h5_ | h5_
 rotate_left
 rotate_left
 all_goals
  obtain rfl := Option.some.inj h
  refine E.s fun n x g0_ g1_ => ?_
  simp -dsimp -implicitDefEqProofs only [go_sem, func118, f118, *, simprocAttr]
def zaZ (c1 : Sl zad) (c2 : Int) (g0_ : Nat) (g1_ : Nat) (K : Ex → St → Option Res) (R : Option Res) : Out (Int × Val × Int) (Int × Val × Int) → Prop
 | .ret r => ∀ (e : Env) (m : Mem), e 4 = (.int .i64 r.1) → m (.arg 0) = some (.rows g0_ false true 3 [zhj r.2.1]) → m (.arg 1) = some (.rows g1_ false true 1 [[(.int .i64 r.2.2)]]) → K .ret ⟨e, m⟩ = R
 | .done q => ∀ (e : Env) (m : Mem), m (.arg 0) = some (.rows g0_ false true 3 [zhj q.2.1]) → m (.arg 1) = some (.rows g1_ false true 1 [[(.int .i64 q.2.2)]]) → K (.exit 0) ⟨e, m⟩ = R
noncomputable def ze6 : Code := zbq f116 [1, 0, 1, 0, 0]
theorem zcw {c1 : Sl zad} {c2 : Int} {kk : Nat} : ∀ {k : Nat} {s3 : Int} {s4 : Val} {s5 : Int} {out : Out (Int × Val × Int) (Int × Val × Int)}, zaA c1 c2 kk k s3 s4 s5 = some out → ∃ N, ∀ n, N ≤ n → ∀ k, N ≤ k → ∀ g0_ g1_, ∀ (e : Env) (m : Mem), e 0 = (dSl zao c1) → e 1 = (.fn (.func 118) [] [(.ptr (.arg 0) g0_ 0 0), (.ptr (.arg 1) g1_ 0 0)]) → e 7 = (.int .i64 c2) → e 8 = (.int .i64 s3) → m (.arg 0) = some (.rows g0_ false true 3 [zhj s4]) → m (.arg 1) = some (.rows g1_ false true 1 [[(.int .i64 s5)]]) → ∀ (K : Ex → St → Option Res) (R : Option Res), zaZ c1 c2 g0_ g1_ K R out → zcj (zbH cfg (dfn cfg n) n ze6) K k ⟨e, m⟩ = R := by
 intro k
 induction k with
 | zero => intro s3 s4 s5 out h; cases h
 | succ k ih => ?_
 intro s3 s4 s5 out h
 have ih := fun x0 x1 x2 {out} => @ih x0 x1 x2 out
 unfold zaA at h
 have E := evT
 rcases zac h with ⟨h1_, h⟩ | ⟨h1_, h⟩
 obtain ⟨y6, h2_, h⟩ := zaa h
 obtain ⟨_, h3_⟩ := zaI h2_
 have h3_ := zax h3_ zao
 obtain ⟨r7, h4_, h⟩ := zaa h
 have E := E.and (zqm h4_)
 rcases zac h with ⟨h5_, h⟩ | ⟨h5_, h⟩
 rotate_left
 rotate_left
 rotate_left
 all_goals
  first | (obtain rfl := Option.some.inj h; refine E.l fun n k x => ?_) | refine E.c (ih _ _ _ h) fun n k x I => ?_
  intro g0_ g1_ e m i0 i1 i2 i3 i4 i5 K R hK
  rw [zau]
  conv => lhs; arg 4; whnf
  first | (simp -dsimp -implicitDefEqProofs only [go_sem, *, simprocAttr]; simp only [zaZ] at hK; refine hK _ _ ?_ ?_ ?_; (iterate 3 (simp -dsimp -implicitDefEqProofs only [go_sem, *, simprocAttr]))) | (simp -dsimp -implicitDefEqProofs only [go_sem, *, simprocAttr]; refine zah (I.1 g0_ g1_ _ _ ?_ ?_ ?_ ?_ ?_ ?_ _ _ hK); (iterate 6 (simp -dsimp -implicitDefEqProofs only [go_sem, *, simprocAttr]))) | (simp -dsimp -implicitDefEqProofs only [go_sem, *, simprocAttr]; simp only [zaZ] at hK; refine hK _ _ ?_ ?_; (iterate 2 (simp -dsimp -implicitDefEqProofs only [go_sem, *, simprocAttr])))
theorem zfI {kk : Nat} {a : (Sl zad)} {u0 : Val} {u1 : Int} {r : Int × Val × Int} (h : zbs kk a u0 u1 = some r) : ∃ N, ∀ n, N ≤ n → ∀ g0_ g1_, dfn cfg n 116 [(dSl zao a), (.fn (.func 118) [] [(.ptr (.arg 0) g0_ 0 0), (.ptr (.arg 1) g1_ 0 0)])] [.rows g0_ false true 3 [zhj u0], .rows g1_ false true 1 [[(.int .i64 u1)]]] = some ⟨(.int .i64 r.1), [.rows g0_ false true 3 [zhj r.2.1], .rows g1_ false true 1 [[(.int .i64 r.2.2)]]], []⟩ := by
 unfold zbs at h
 have E := evT
 rcases zaz h with ⟨r8_, o7_, h⟩ | ⟨q8, o7_, h⟩
 obtain ⟨_, l6_, E⟩ := E.lp (zcw o7_)
 rotate_left
 obtain ⟨_, l9_, E⟩ := E.lp (zcw o7_)
 rotate_left
 all_goals
  obtain rfl := Option.some.inj h
  refine E.s fun n x g0_ g1_ => ?_
  first | (have := l6_; simp -dsimp -implicitDefEqProofs only [go_sem, func116, f116, *, simprocAttr]; refine zah (l6_.1 n (by omega) g0_ g1_ _ _ ?_ ?_ ?_ ?_ ?_ ?_ _ _ ?_); (iterate 6 (simp -dsimp -implicitDefEqProofs only [go_sem, *, simprocAttr])); simp only [zaZ]; intro e m i0 i1 i2; simp -dsimp -implicitDefEqProofs only [go_sem, func116, f116, *, simprocAttr]) | (have := l9_; simp -dsimp -implicitDefEqProofs only [go_sem, func116, f116, *, simprocAttr]; refine zah (l9_.1 n (by omega) g0_ g1_ _ _ ?_ ?_ ?_ ?_ ?_ ?_ _ _ ?_); (iterate 6 (simp -dsimp -implicitDefEqProofs only [go_sem, *, simprocAttr])); simp only [zaZ]; intro e m i0 i1; simp -dsimp -implicitDefEqProofs only [go_sem, func116, f116, *, simprocAttr])
theorem zbK {kk : Nat} {a : (Sl zad)} {u0 : Val} {u1 : Int} {r : Bool × Val × Int} (h : za1 kk a u0 u1 = some r) : ∃ N, ∀ n, N ≤ n → ∀ g0_ g1_, dfn cfg n 72 [(dSl zao a), (.fn (.func 118) [] [(.ptr (.arg 0) g0_ 0 0), (.ptr (.arg 1) g1_ 0 0)])] [.rows g0_ false true 3 [zhj u0], .rows g1_ false true 1 [[(.int .i64 u1)]]] = some ⟨(.bool r.1), [.rows g0_ false true 3 [zhj r.2.1], .rows g1_ false true 1 [[(.int .i64 r.2.2)]]], []⟩ := by
 unfold za1 at h
 have E := evT
 obtain ⟨r1, h1_, h⟩ := zaa h
 have E := E.and (zfI h1_)
 obtain rfl := Option.some.inj h
 refine E.s fun n x g0_ g1_ => ?_
 simp -dsimp -implicitDefEqProofs only [go_sem, func72, f72, *, simprocAttr]
theorem zsb {kk : Nat} {a : Int} {b : (Sl zad)} {c : Int} {d : Val} {r : Bool} (h : zgL kk a b c d = some r) : Ev cfg 75 [(.int .i64 a), (dSl zao b), (.int .i64 c), (.agg (zhj d))] (.bool r) := by
 unfold zgL at h
 have E := evT
 have E := E.and (zpO d)
 rcases zac h with ⟨h1_, h⟩ | ⟨h1_, h⟩
 rcases zbW h1_ with b2_ | ⟨b2_, b3_⟩
 rcases zbW b2_ with b4_ | ⟨b4_, b5_⟩
 rcases zbW b4_ with b6_ | ⟨b6_, b7_⟩
 rcases zbW b6_ with b8_ | ⟨b8_, b9_⟩
 rotate_left
 rotate_left
 obtain ⟨b10_, b11_⟩ := zaM b6_
 rotate_left
 obtain ⟨b12_, b13_⟩ := zaM b4_
 obtain ⟨b14_, b15_⟩ := zaM b12_
 rotate_left
 obtain ⟨b16_, b17_⟩ := zaM b2_
 obtain ⟨b18_, b19_⟩ := zaM b16_
 obtain ⟨b20_, b21_⟩ := zaM b18_
 have b22_ := zaq b3_
 rotate_left
 obtain ⟨b23_, b24_⟩ := zaM h1_
 obtain ⟨b25_, b26_⟩ := zaM b23_
 obtain ⟨b27_, b28_⟩ := zaM b25_
 obtain ⟨b29_, b30_⟩ := zaM b27_
 have b31_ := zam b24_
 rcases zac h with ⟨h32_, h⟩ | ⟨h32_, h⟩
 obtain ⟨b33_, b34_⟩ := zb2 h32_
 rcases zbW b33_ with b35_ | ⟨b35_, b36_⟩
 rotate_left
 rotate_left
 rcases zbC h32_ with b37_ | ⟨b37_, b38_⟩
 obtain ⟨b39_, b40_⟩ := zaM b37_
 obtain ⟨r1, h43_, h⟩ := zaa h
 have E := E.and (zbK h43_)
 rotate_left
 rcases zbW b37_ with b41_ | ⟨b41_, b42_⟩
 obtain ⟨r1, h44_, h⟩ := zaa h
 have E := E.and (zbK h44_)
 rotate_left
 obtain ⟨r1, h45_, h⟩ := zaa h
 have E := E.and (zbK h45_)
 rotate_left
 all_goals
  obtain rfl := Option.some.inj h
  refine E.s fun n x => ?_
  simp -dsimp -implicitDefEqProofs only [go_sem, func75, f75, *, simprocAttr]
theorem zsp (a : Int) (b : Sl zad) (c : Int) (d : Val) (h : b.l.length < big - 1) : Ev cfg 75 [(.int .i64 a), (dSl zao b), (.int .i64 c), (.agg (zhj d))] (.bool (zj6 a b c d)) := zsb (zpL (kk := big) a b c d h (by omega))
end Go.Proofs.Tryz
set_option maxRecDepth 100000
set_option maxHeartbeats 4000000
set_option linter.unusedSimpArgs false
set_option linter.unusedVariables false
namespace Go.Proofs.Tryz
open Go.Ev
def zeq (c16 : Sl zal) (c17 : Sl zal) (c18 : Int) (c19 : Int) (c20 : Sl zai) (c21 : Int) (c23 : zal) (K : Ex → St → Option Res) (R : Option Res) : Out (Bool) (Int) → Prop
 | .ret r => ∀ (e : Env) (m : Mem), e 2 = (.bool r) → K .ret ⟨e, m⟩ = R
 | .done q => ∀ (e : Env) (m : Mem), e 0 = (dSl zap c16) → e 10 = (dSl zap c17) → e 11 = (.int .i64 c18) → e 12 = (.int .i64 c19) → K (.exit 2) ⟨e, m⟩ = R
noncomputable def zrG : Code := zbq f8 [1, 1, 0, 1, 0, 0, 1, 1, 0, 0, 1, 1, 1, 0, 0]
abbrev zEf (sz : Nat) : Prop := (∀ (a : (Sl zal)), 20 * zak a.l + 1 < sz → Ev cfg 8 [(dSl zap a)] (.bool (zbZ a))) ∧ (∀ (a : zan), 20 * zbx a < sz → Ev cfg 26 [(.agg (zbj a))] (.bool (zqR a))) ∧ (∀ (a : (Sl zal)), 20 * zak a.l + 2 < sz → Ev cfg 70 [(dSl zap a)] (.bool (zna a))) ∧ (∀ (a : (Sl (Sl zal))), 20 * zcv a.l < sz → Ev cfg 114 [(dSl (cSl zap) a), (.fn (.func 70) [] [])] (.int .i64 (zwy zna a))) ∧ (∀ (a : (Sl (Sl zal))), 20 * zcv a.l + 1 < sz → Ev cfg 69 [(dSl (cSl zap) a), (.fn (.func 70) [] [])] (.bool (zuY zna a))) ∧ (∀ (a : zad), 20 * zec a < sz → Ev cfg 73 [(.agg (zao a))] (.bool (zjB a))) ∧ (∀ (a : (Sl zad)), 20 * za9 a.l < sz → Ev cfg 116 [(dSl zao a), (.fn (.func 73) [] [])] (.int .i64 (zwy zjB a))) ∧ (∀ (a : (Sl zad)), 20 * za9 a.l + 1 < sz → Ev cfg 72 [(dSl zao a), (.fn (.func 73) [] [])] (.bool (zuY zjB a)))
theorem zkN {c16 : Sl zal} {c17 : Sl zal} {c18 : Int} {c19 : Int} {c20 : Sl zai} {c21 : Int} {c23 : zal} {sz : Nat} (hg : zEf sz) {kk : Nat} : ∀ {k : Nat} {s22 : Int} {out : Out (Bool) (Int)}, zcc c16 c17 c18 c19 c20 c21 c23 sz kk k s22 = some out → ∃ N, ∀ n, N ≤ n → ∀ k, N ≤ k → ∀ (e : Env) (m : Mem), e 0 = (dSl zap c16) → zci (e 4) m 4 2 (zap c23) → e 10 = (dSl zap c17) → e 11 = (.int .i64 c18) → e 12 = (.int .i64 c19) → e 40 = (dSl zar c20) → e 41 = (.int .i64 c21) → e 42 = (.int .i64 s22) → ∀ (K : Ex → St → Option Res) (R : Option Res), zeq c16 c17 c18 c19 c20 c21 c23 K R out → zcj (zbH cfg (dfn cfg n) n zrG) K k ⟨e, m⟩ = R := by
 have ⟨_, hVA, _, _, _, _, _, _⟩ := hg
 intro k
 induction k with
 | zero => intro s22 out h; cases h
 | succ k ih => ?_
 intro s22 out h
 have ih := fun x0 {out} => @ih x0 out
 unfold zcc at h
 have E := evT
 rcases zac h with ⟨h1_, h⟩ | ⟨h1_, h⟩
 obtain ⟨y24, h2_, h⟩ := zaa h
 obtain ⟨_, h3_⟩ := zaI h2_
 have h3_ := zax h3_ zar
 have E := E.and (zj2 y24.atom)
 rcases zac h with ⟨h4_, h⟩ | ⟨h4_, h⟩
 obtain ⟨y25, h5_, h⟩ := zaa h
 obtain ⟨_, h6_⟩ := zaI h5_
 have h6_ := zax h6_ zar
 obtain ⟨_, h7_, h⟩ := zaa h
 have E := E.and (znY y25.atom y24.atom (zag h7_))
 rcases zac h with ⟨h8_, h⟩ | ⟨h8_, h⟩
 have b9_ := zaq h8_
 obtain ⟨b10_, b11_⟩ := zaM b9_
 obtain ⟨b12_, b13_⟩ := zaM b10_
 rcases zbC b13_ with b14_ | ⟨b14_, b15_⟩
 obtain ⟨_, h16_, h⟩ := zaa h
 have E := E.and (hVA y24.atom (zag h16_))
 rcases zac h with ⟨h17_, h⟩ | ⟨h17_, h⟩
 have b18_ := zaq h17_
 rotate_left
 have b19_ := zam h17_
 rotate_left
 obtain ⟨_, h20_, h⟩ := zaa h
 have E := E.and (hVA y24.atom (zag h20_))
 rcases zac h with ⟨h21_, h⟩ | ⟨h21_, h⟩
 have b22_ := zaq h21_
 rotate_left
 have b23_ := zam h21_
 rotate_left
 have b24_ := zam h8_
 rcases zbW b24_ with b25_ | ⟨b25_, b26_⟩
 rcases zbW b25_ with b27_ | ⟨b27_, b28_⟩
 rcases Bool.eq_false_or_eq_true (((zvj y24.atom))) with h35_ | h35_
 rotate_left
 rotate_left
 obtain ⟨b29_, b30_⟩ := zb2 b28_
 rotate_left
 obtain ⟨b31_, b32_⟩ := zaM b25_
 rcases zbC b32_ with b33_ | ⟨b33_, b34_⟩
 rotate_left
 rotate_left
 rcases zac h with ⟨h36_, h⟩ | ⟨h36_, h⟩
 have b37_ := zaq h36_
 obtain ⟨b38_, b39_⟩ := zaM b37_
 rcases zbC b39_ with b40_ | ⟨b40_, b41_⟩
 obtain ⟨_, h42_, h⟩ := zaa h
 have E := E.and (hVA y24.atom (zag h42_))
 rcases zac h with ⟨h43_, h⟩ | ⟨h43_, h⟩
 have b44_ := zaq h43_
 rotate_left
 have b45_ := zam h43_
 rotate_left
 obtain ⟨_, h46_, h⟩ := zaa h
 have E := E.and (hVA y24.atom (zag h46_))
 rcases zac h with ⟨h47_, h⟩ | ⟨h47_, h⟩
 have b48_ := zaq h47_
 rotate_left
 have b49_ := zam h47_
 rotate_left
 have b50_ := zam h36_
 rcases zbW b50_ with b51_ | ⟨b51_, b52_⟩
 rcases Bool.eq_false_or_eq_true (((zvj y24.atom))) with h55_ | h55_
 rotate_left
 rotate_left
 obtain ⟨b53_, b54_⟩ := zb2 b52_
 rotate_left
 rotate_left
 all_goals
  first | (obtain rfl := Option.some.inj h; refine E.l fun n k x => ?_) | refine E.c (ih _ h) fun n k x I => ?_
  intro e m i0 i1 i2 i3 i4 i5 i6 i7 K R hK
  obtain ⟨_, _, _⟩ := i1
  rw [zau]
  conv => lhs; arg 4; whnf
  first | (simp -dsimp -implicitDefEqProofs only [go_sem, *, simprocAttr]; simp only [zeq] at hK; refine hK _ _ ?_; simp -dsimp -implicitDefEqProofs only [go_sem, *, simprocAttr]) | (simp -dsimp -implicitDefEqProofs only [go_sem, *, simprocAttr]; refine zah (I.1 _ _ ?_ ?_ ?_ ?_ ?_ ?_ ?_ ?_ _ _ hK); (iterate 8 (simp -dsimp -implicitDefEqProofs only [go_sem, *, simprocAttr]))) | (simp -dsimp -implicitDefEqProofs only [go_sem, *, simprocAttr]; simp only [zeq] at hK; refine hK _ _ ?_ ?_ ?_ ?_; (iterate 4 (simp -dsimp -implicitDefEqProofs only [go_sem, *, simprocAttr])))
def zh3 (c7 : Sl zal) (c8 : Int) (c9 : Sl zal) (c10 : Int) (c11 : Int) (c12 : zal) (K : Ex → St → Option Res) (R : Option Res) (q : Bool) : Prop := ∀ (e : Env) (m : Mem), e 0 = (dSl zap c7) → zci (e 4) m 4 2 (zap c12) → e 10 = (dSl zap c9) → e 11 = (.int .i64 c10) → e 12 = (.int .i64 c11) → e 38 = (.bool (q)) → K .normal ⟨e, m⟩ = R
noncomputable def zkX : Code := zbq f8 [1, 1, 0, 1, 0, 0, 1, 1, 0, 0, 1, 0, 0]
theorem zru {c7 : Sl zal} {c8 : Int} {c9 : Sl zal} {c10 : Int} {c11 : Int} {c12 : zal} {sz : Nat} (hg : zEf sz) {kk : Nat} {out : Bool} (h : zgI c7 c8 c9 c10 c11 c12 sz kk = some out) : ∃ N, ∀ n, N ≤ n → ∀ (e : Env) (m : Mem), e 0 = (dSl zap c7) → e 3 = (.int .i64 c8) → zci (e 4) m 4 2 (zap c12) → e 10 = (dSl zap c9) → e 11 = (.int .i64 c10) → e 12 = (.int .i64 c11) → ∀ (K : Ex → St → Option Res) (R : Option Res), zh3 c7 c8 c9 c10 c11 c12 K R out → zbH cfg (dfn cfg n) n zkX K ⟨e, m⟩ = R := by
 unfold zgI at h
 have E := evT
 rcases zac h with ⟨h56_, h⟩ | ⟨h56_, h⟩
 obtain ⟨y13, h57_, h⟩ := zaa h
 obtain ⟨_, h58_⟩ := zaI h57_
 have h58_ := zax h58_ zap
 obtain ⟨_, h59_, h⟩ := zaa h
 have E := E.and (znW y13 c12 (zag h59_))
 rcases Bool.eq_false_or_eq_true ((decide (c12.coeff < 1))) with h60_ | h60_
 rotate_left
 rcases Bool.eq_false_or_eq_true ((decide (1152921504606846976 < c12.coeff))) with h61_ | h61_
 rotate_left
 rotate_left
 rcases zac h with ⟨h62_, h⟩ | ⟨h62_, h⟩
 have b63_ := zaq h62_
 obtain ⟨b64_, b65_⟩ := zaM b63_
 rotate_left
 have b66_ := zam h62_
 rcases zbW b66_ with b67_ | ⟨b67_, b68_⟩
 rotate_left
 rotate_left
 all_goals
  obtain rfl := Option.some.inj h
  refine E.j fun n x => ?_
  intro e m i0 i1 i2 i3 i4 i5 K R hK
  obtain ⟨_, _, _⟩ := i2
  conv => lhs; arg 4; whnf
  simp -dsimp -implicitDefEqProofs only [go_sem, *, simprocAttr]
  simp only [zh3] at hK
  refine hK _ _ ?_ ?_ ?_ ?_ ?_ ?_
  (iterate 6 (simp -dsimp -implicitDefEqProofs only [go_sem, *, simprocAttr]))
def zdp (c2 : Sl zal) (c3 : Sl zal) (c4 : Int) (K : Ex → St → Option Res) (R : Option Res) : Out (Bool) (Int) → Prop
 | .ret r => ∀ (e : Env) (m : Mem), e 2 = (.bool r) → K .ret ⟨e, m⟩ = R
 | .done q => ∀ (e : Env) (m : Mem), K (.exit 0) ⟨e, m⟩ = R
noncomputable def zrH : Code := zbq f8 [1, 1, 0, 1, 0, 0]
theorem zkO {c2 : Sl zal} {c3 : Sl zal} {c4 : Int} {sz : Nat} (hg : zEf sz) {kk : Nat} : ∀ {k : Nat} {s5 : Int} {out : Out (Bool) (Int)}, zcy c2 c3 c4 sz kk k s5 = some out → ∃ N, ∀ n, N ≤ n → ∀ k, N ≤ k → ∀ (e : Env) (m : Mem), e 0 = (dSl zap c2) → e 10 = (dSl zap c3) → e 11 = (.int .i64 c4) → e 12 = (.int .i64 s5) → ∀ (K : Ex → St → Option Res) (R : Option Res), zdp c2 c3 c4 K R out → zcj (zbH cfg (dfn cfg n) n zrH) K k ⟨e, m⟩ = R := by
 intro k
 induction k with
 | zero => intro s5 out h; cases h
 | succ k ih => ?_
 intro s5 out h
 have ih := fun x0 {out} => @ih x0 out
 unfold zcy at h
 have E := evT
 rcases zac h with ⟨h69_, h⟩ | ⟨h69_, h⟩
 obtain ⟨y6, h70_, h⟩ := zaa h
 obtain ⟨_, h71_⟩ := zaI h70_
 have h71_ := zax h71_ zap
 obtain ⟨q15, o73_, h⟩ := zaa h
 obtain ⟨_, l72_, E⟩ := E.lj (zru hg o73_)
 rcases zac h with ⟨h75_, h⟩ | ⟨h75_, h⟩
 rotate_left
 rcases zaz h with ⟨r78_, o77_, h⟩ | ⟨q29, o77_, h⟩
 obtain ⟨_, l76_, E⟩ := E.lp (zkN hg o77_)
 rotate_left
 obtain ⟨_, l79_, E⟩ := E.lp (zkN hg o77_)
 rotate_left
 rotate_left
 all_goals
  first | (obtain rfl := Option.some.inj h; refine E.l fun n k x => ?_) | refine E.c (ih _ h) fun n k x I => ?_
  intro e m i0 i1 i2 i3 K R hK
  have j0 := zeL cfg (dfn cfg n) n zkX
  conv at j0 => intro k s; lhs; arg 4; whnf
  rw [zau]
  conv => lhs; arg 4; whnf
  first | (have := l72_; simp -dsimp -implicitDefEqProofs only [go_sem, ↓j0, *, simprocAttr]; refine zgc (l72_.1 n (by omega) _ _ ?_ ?_ ?_ ?_ ?_ ?_ _ _ ?_); (iterate 6 (simp -dsimp -implicitDefEqProofs only [go_sem, *, simprocAttr])); simp only [zh3]; intro e m i0 i1 i2 i3 i4 i5; obtain ⟨_, _, _⟩ := i1; first | (have := l76_; (try simp -dsimp -implicitDefEqProofs only [go_sem, ↓j0, *, simprocAttr]); refine zah (l76_.1 n (by omega) _ _ ?_ ?_ ?_ ?_ ?_ ?_ ?_ ?_ _ _ ?_); (iterate 8 (simp -dsimp -implicitDefEqProofs only [go_sem, *, simprocAttr])); simp only [zeq]; intro e m i0; (try simp -dsimp -implicitDefEqProofs only [go_sem, ↓j0, *, simprocAttr]); simp only [zdp] at hK; refine hK _ _ ?_; simp -dsimp -implicitDefEqProofs only [go_sem, *, simprocAttr]) | (have := l79_; (try simp -dsimp -implicitDefEqProofs only [go_sem, ↓j0, *, simprocAttr]); refine zah (l79_.1 n (by omega) _ _ ?_ ?_ ?_ ?_ ?_ ?_ ?_ ?_ _ _ ?_); (iterate 8 (simp -dsimp -implicitDefEqProofs only [go_sem, *, simprocAttr])); simp only [zeq]; intro e m i0 i1 i2 i3; (try simp -dsimp -implicitDefEqProofs only [go_sem, ↓j0, *, simprocAttr]); refine zah (I.1 _ _ ?_ ?_ ?_ ?_ _ _ hK); (iterate 4 (simp -dsimp -implicitDefEqProofs only [go_sem, *, simprocAttr]))) | ((try simp -dsimp -implicitDefEqProofs only [go_sem, ↓j0, *, simprocAttr]); simp only [zdp] at hK; refine hK _ _ ?_; simp -dsimp -implicitDefEqProofs only [go_sem, *, simprocAttr])) | ((try simp -dsimp -implicitDefEqProofs only [go_sem, ↓j0, *, simprocAttr]); simp only [zdp] at hK; refine hK _ _)
theorem zup {kk : Nat} {a : (Sl zal)} {sz : Nat} (hg : zEf sz) {r : Bool} (h : zhC kk sz a = some r) : Ev cfg 8 [(dSl zap a)] (.bool r) := by
 unfold zhC at h
 have E := evT
 obtain ⟨_, h80_, h⟩ := zaa h
 have E := E.and (ztk a (zag h80_))
 rcases zac h with ⟨h81_, h⟩ | ⟨h81_, h⟩
 have b82_ := zaq h81_
 rotate_left
 have b83_ := zam h81_
 rcases zaz h with ⟨r86_, o85_, h⟩ | ⟨q30, o85_, h⟩
 obtain ⟨_, l84_, E⟩ := E.lp (zkO hg o85_)
 rotate_left
 obtain ⟨_, l87_, E⟩ := E.lp (zkO hg o85_)
 rotate_left
 all_goals
  obtain rfl := Option.some.inj h
  refine E.s fun n x => ?_
  first | (have := l84_; simp -dsimp -implicitDefEqProofs only [go_sem, func8, f8, *, simprocAttr]; refine zah (l84_.1 n (by omega) _ _ ?_ ?_ ?_ ?_ _ _ ?_); (iterate 4 (simp -dsimp -implicitDefEqProofs only [go_sem, *, simprocAttr])); simp only [zdp]; intro e m i0; simp -dsimp -implicitDefEqProofs only [go_sem, func8, f8, *, simprocAttr]) | (have := l87_; simp -dsimp -implicitDefEqProofs only [go_sem, func8, f8, *, simprocAttr]; refine zah (l87_.1 n (by omega) _ _ ?_ ?_ ?_ ?_ _ _ ?_); (iterate 4 (simp -dsimp -implicitDefEqProofs only [go_sem, *, simprocAttr])); simp only [zdp]; intro e m; simp -dsimp -implicitDefEqProofs only [go_sem, func8, f8, *, simprocAttr]) | (simp -dsimp -implicitDefEqProofs only [go_sem, func8, f8, *, simprocAttr])
def zgn (c3 : Bool) (c4 : zan) (K : Ex → St → Option Res) (R : Option Res) (q : Bool) : Prop := ∀ (e : Env) (m : Mem), zci (e 1) m 1 10 (zbj c4) → e 46 = (.bool (q)) → K .normal ⟨e, m⟩ = R
noncomputable def ziS : Code := zbq f26 [1, 1, 0, 0]
theorem znG {c3 : Bool} {c4 : zan} {sz : Nat} (hg : zEf sz) {kk : Nat} {out : Bool} (h : zeM c3 c4 sz kk = some out) : ∃ N, ∀ n, N ≤ n → ∀ (e : Env) (m : Mem), zci (e 1) m 1 10 (zbj c4) → e 3 = (.bool (c3)) → ∀ (K : Ex → St → Option Res) (R : Option Res), zgn c3 c4 K R out → zbH cfg (dfn cfg n) n ziS K ⟨e, m⟩ = R := by
 have ⟨_, _, _, _, hC1, _, _, _⟩ := hg
 unfold zeM at h
 have E := evT
 rcases zac h with ⟨h1_, h⟩ | ⟨h1_, h⟩
 have b2_ := zaq h1_
 obtain ⟨b3_, b4_⟩ := zaM b2_
 rcases zbC b4_ with b5_ | ⟨b5_, b6_⟩
 obtain ⟨_, h10_, h⟩ := zaa h
 have E := E.and (hC1 c4.args (zag h10_))
 rotate_left
 have b7_ := zam b6_
 obtain ⟨b8_, b9_⟩ := zb2 b7_
 obtain ⟨_, h11_, h⟩ := zaa h
 have E := E.and (hC1 c4.args (zag h11_))
 rotate_left
 have b12_ := zam h1_
 rcases zbW b12_ with b13_ | ⟨b13_, b14_⟩
 rcases Bool.eq_false_or_eq_true ((c4.kind != 0)) with h20_ | h20_
 rotate_left
 rotate_left
 obtain ⟨b15_, b16_⟩ := zb2 b14_
 have b17_ := zaq b16_
 rcases zbC b17_ with b18_ | ⟨b18_, b19_⟩
 rotate_left
 rotate_left
 all_goals
  obtain rfl := Option.some.inj h
  refine E.j fun n x => ?_
  intro e m i0 i1 K R hK
  obtain ⟨_, _, _⟩ := i0
  conv => lhs; arg 4; whnf
  simp -dsimp -implicitDefEqProofs only [go_sem, *, simprocAttr]
  simp only [zgn] at hK
  refine hK _ _ ?_ ?_
  (iterate 2 (simp -dsimp -implicitDefEqProofs only [go_sem, *, simprocAttr]))
def zgo (c1 : zan) (K : Ex → St → Option Res) (R : Option Res) (q : Bool) : Prop := ∀ (e : Env) (m : Mem), zci (e 1) m 1 10 (zbj c1) → e 3 = (.bool (q)) → K .normal ⟨e, m⟩ = R
noncomputable def ziT : Code := zbq f26 [1, 0]
theorem znH {c1 : zan} {sz : Nat} (hg : zEf sz) {kk : Nat} {out : Bool} (h : zeN c1 sz kk = some out) : ∃ N, ∀ n, N ≤ n → ∀ (e : Env) (m : Mem), zci (e 1) m 1 10 (zbj c1) → ∀ (K : Ex → St → Option Res) (R : Option Res), zgo c1 K R out → zbH cfg (dfn cfg n) n ziT K ⟨e, m⟩ = R := by
 unfold zeN at h
 have E := evT
 rcases Bool.eq_false_or_eq_true ((c1.kind != 4)) with h21_ | h21_
 rcases Bool.eq_false_or_eq_true ((c1.func != 0)) with h22_ | h22_
 rotate_left
 rcases Bool.eq_false_or_eq_true (((c1.items.l.length : Int) != 0)) with h23_ | h23_
 rotate_left
 rcases Bool.eq_false_or_eq_true ((c1.op != 0)) with h24_ | h24_
 rotate_left
 rotate_left
 rcases Bool.eq_false_or_eq_true ((c1.func != 0)) with h25_ | h25_
 rotate_left
 rcases Bool.eq_false_or_eq_true (((c1.items.l.length : Int) != 0)) with h26_ | h26_
 rotate_left
 rcases Bool.eq_false_or_eq_true ((c1.op != 0)) with h27_ | h27_
 rotate_left
 rotate_left
 all_goals
  obtain rfl := Option.some.inj h
  refine E.j fun n x => ?_
  intro e m i0 K R hK
  obtain ⟨_, _, _⟩ := i0
  conv => lhs; arg 4; whnf
  simp -dsimp -implicitDefEqProofs only [go_sem, *, simprocAttr]
  simp only [zgo] at hK
  refine hK _ _ ?_ ?_
  (iterate 2 (simp -dsimp -implicitDefEqProofs only [go_sem, *, simprocAttr]))
theorem zqj {kk : Nat} {a : zan} {sz : Nat} (hg : zEf sz) {r : Bool} (h : zfS kk sz a = some r) : Ev cfg 26 [(.agg (zbj a))] (.bool r) := by
 have ⟨_, _, _, _, _, _, _, hC2⟩ := hg
 unfold zfS at h
 have E := evT
 obtain ⟨q2, o29_, h⟩ := zaa h
 obtain ⟨_, l28_, E⟩ := E.lj (znH hg o29_)
 obtain ⟨q6, o32_, h⟩ := zaa h
 obtain ⟨_, l31_, E⟩ := E.lj (znG hg o32_)
 rcases zac h with ⟨h34_, h⟩ | ⟨h34_, h⟩
 rotate_left
 rcases zac h with ⟨h35_, h⟩ | ⟨h35_, h⟩
 have E := E.and (zsL a.row)
 rcases Bool.eq_false_or_eq_true (((zdV a.row))) with h36_ | h36_
 rotate_left
 rotate_left
 rcases zac h with ⟨h37_, h⟩ | ⟨h37_, h⟩
 rcases zac h with ⟨h38_, h⟩ | ⟨h38_, h⟩
 obtain ⟨y7, h39_, h⟩ := zaa h
 have h39_ := zax h39_ (cSl zap)
 obtain ⟨y8, h40_, h⟩ := zaa h
 have h40_ := zax h40_ (cSl zap)
 obtain ⟨_, h41_, h⟩ := zaa h
 have E := E.and (znp y7 y8 (zag h41_))
 rotate_left
 rotate_left
 rcases zac h with ⟨h42_, h⟩ | ⟨h42_, h⟩
 rcases zac h with ⟨h43_, h⟩ | ⟨h43_, h⟩
 obtain ⟨y10, h44_, h⟩ := zaa h
 have h44_ := zax h44_ (cSl zap)
 have E := E.and (zpR y10)
 have E := E.and (ztl y10)
 rcases Bool.eq_false_or_eq_true (((zhR y10))) with h45_ | h45_
 rotate_left
 rotate_left
 rotate_left
 rcases zac h with ⟨h46_, h⟩ | ⟨h46_, h⟩
 rcases zac h with ⟨h47_, h⟩ | ⟨h47_, h⟩
 obtain ⟨y11, h48_, h⟩ := zaa h
 have h48_ := zax h48_ (cSl zap)
 obtain ⟨_, h49_, h⟩ := zaa h
 have E := E.and (zoz y11 (zag h49_))
 rotate_left
 rotate_left
 rcases zac h with ⟨h50_, h⟩ | ⟨h50_, h⟩
 obtain ⟨_, h51_, h⟩ := zaa h
 have E := E.and (hC2 a.items (zag h51_))
 rcases zac h with ⟨h52_, h⟩ | ⟨h52_, h⟩
 obtain ⟨b53_, b54_⟩ := zb2 h52_
 obtain ⟨b55_, b56_⟩ := zb2 b53_
 have b57_ := zaq b54_
 obtain ⟨_, h58_, h⟩ := zaa h
 have E := E.and (zev a.items (zag h58_))
 rcases zac h with ⟨h59_, h⟩ | ⟨h59_, h⟩
 obtain ⟨_, h60_, h⟩ := zaa h
 have E := E.and (zsp a.func a.items a.op a.bound (zag h60_))
 rotate_left
 rotate_left
 rcases zbC h52_ with b61_ | ⟨b61_, b62_⟩
 rcases zbC b61_ with b63_ | ⟨b63_, b64_⟩
 rotate_left
 rotate_left
 obtain ⟨b65_, b66_⟩ := zb2 b61_
 have b67_ := zam b62_
 rotate_left
 rotate_left
 all_goals
  obtain rfl := Option.some.inj h
  refine E.s fun n x => ?_
  have j0 := zeL cfg (dfn cfg n) n ziT
  conv at j0 => intro k s; lhs; arg 4; whnf
  have j1 := zeL cfg (dfn cfg n) n ziS
  conv at j1 => intro k s; lhs; arg 4; whnf
  simp -dsimp -implicitDefEqProofs only [go_sem, ↓j0, ↓j1, func26, f26, *, simprocAttr]
  refine zgc (l28_.1 n (by omega) _ _ ?_ _ _ ?_)
  simp -dsimp -implicitDefEqProofs only [go_sem, *, simprocAttr]
  simp only [zgo]
  intro e m i0 i1
  obtain ⟨_, _, _⟩ := i0
  (try simp -dsimp -implicitDefEqProofs only [go_sem, ↓j0, ↓j1, func26, f26, *, simprocAttr])
  refine zgc (l31_.1 n (by omega) _ _ ?_ ?_ _ _ ?_)
  (iterate 2 (simp -dsimp -implicitDefEqProofs only [go_sem, *, simprocAttr]))
  simp only [zgn]
  intro e m i0 i1
  obtain ⟨_, _, _⟩ := i0
  simp -dsimp -implicitDefEqProofs only [go_sem, ↓j0, ↓j1, func26, f26, *, simprocAttr]
theorem zon {kk : Nat} {a : (Sl zal)} {sz : Nat} (hg : zEf sz) {r : Bool} (h : zeP kk sz a = some r) : Ev cfg 70 [(dSl zap a)] (.bool r) := by
 have ⟨hV, _, _, _, _, _, _, _⟩ := hg
 unfold zeP at h
 have E := evT
 obtain ⟨_, h1_, h⟩ := zaa h
 have E := E.and (hV a (zag h1_))
 rcases Bool.eq_false_or_eq_true (((zbZ a))) with h2_ | h2_
 rotate_left
 rotate_left
 all_goals
  obtain rfl := Option.some.inj h
  refine E.s fun n x => ?_
  simp -dsimp -implicitDefEqProofs only [go_sem, func70, f70, *, simprocAttr]
def zaR (c1 : Sl (Sl zal)) (c2 : Int) (K : Ex → St → Option Res) (R : Option Res) : Out (Int) (Int) → Prop
 | .ret r => ∀ (e : Env) (m : Mem), e 4 = (.int .i64 r) → K .ret ⟨e, m⟩ = R
 | .done q => ∀ (e : Env) (m : Mem), K (.exit 0) ⟨e, m⟩ = R
noncomputable def zel : Code := zbq f114 [1, 0, 1, 0, 0]
theorem zcg {c1 : Sl (Sl zal)} {c2 : Int} {sz : Nat} (hg : zEf sz) {kk : Nat} : ∀ {k : Nat} {s3 : Int} {out : Out (Int) (Int)}, zaD c1 c2 sz kk k s3 = some out → ∃ N, ∀ n, N ≤ n → ∀ k, N ≤ k → ∀ (e : Env) (m : Mem), e 0 = (dSl (cSl zap) c1) → e 1 = (.fn (.func 70) [] []) → e 7 = (.int .i64 c2) → e 8 = (.int .i64 s3) → ∀ (K : Ex → St → Option Res) (R : Option Res), zaR c1 c2 K R out → zcj (zbH cfg (dfn cfg n) n zel) K k ⟨e, m⟩ = R := by
 have ⟨_, _, hB1, _, _, _, _, _⟩ := hg
 intro k
 induction k with
 | zero => intro s3 out h; cases h
 | succ k ih => ?_
 intro s3 out h
 have ih := fun x0 {out} => @ih x0 out
 unfold zaD at h
 have E := evT
 rcases zac h with ⟨h1_, h⟩ | ⟨h1_, h⟩
 obtain ⟨y4, h2_, h⟩ := zaa h
 obtain ⟨_, h3_⟩ := zaI h2_
 have h3_ := zax h3_ (cSl zap)
 obtain ⟨_, h4_, h⟩ := zaa h
 have E := E.and (hB1 y4 (zag h4_))
 rcases zac h with ⟨h5_, h⟩ | ⟨h5_, h⟩
 rotate_left
 rotate_left
 rotate_left
 all_goals
  first | (obtain rfl := Option.some.inj h; refine E.l fun n k x => ?_) | refine E.c (ih _ h) fun n k x I => ?_
  intro e m i0 i1 i2 i3 K R hK
  rw [zau]
  conv => lhs; arg 4; whnf
  first | (simp -dsimp -implicitDefEqProofs only [go_sem, *, simprocAttr]; simp only [zaR] at hK; refine hK _ _ ?_; simp -dsimp -implicitDefEqProofs only [go_sem, *, simprocAttr]) | (simp -dsimp -implicitDefEqProofs only [go_sem, *, simprocAttr]; refine zah (I.1 _ _ ?_ ?_ ?_ ?_ _ _ hK); (iterate 4 (simp -dsimp -implicitDefEqProofs only [go_sem, *, simprocAttr]))) | (simp -dsimp -implicitDefEqProofs only [go_sem, *, simprocAttr]; simp only [zaR] at hK; refine hK _ _)
theorem zeV {kk : Nat} {a : (Sl (Sl zal))} {sz : Nat} (hg : zEf sz) {r : Int} (h : zbg kk sz a = some r) : Ev cfg 114 [(dSl (cSl zap) a), (.fn (.func 70) [] [])] (.int .i64 r) := by
 unfold zbg at h
 have E := evT
 rcases zaz h with ⟨r8_, o7_, h⟩ | ⟨q6, o7_, h⟩
 obtain ⟨_, l6_, E⟩ := E.lp (zcg hg o7_)
 rotate_left
 obtain ⟨_, l9_, E⟩ := E.lp (zcg hg o7_)
 rotate_left
 all_goals
  obtain rfl := Option.some.inj h
  refine E.s fun n x => ?_
  first | (have := l6_; simp -dsimp -implicitDefEqProofs only [go_sem, func114, f114, *, simprocAttr]; refine zah (l6_.1 n (by omega) _ _ ?_ ?_ ?_ ?_ _ _ ?_); (iterate 4 (simp -dsimp -implicitDefEqProofs only [go_sem, *, simprocAttr])); simp only [zaR]; intro e m i0; simp -dsimp -implicitDefEqProofs only [go_sem, func114, f114, *, simprocAttr]) | (have := l9_; simp -dsimp -implicitDefEqProofs only [go_sem, func114, f114, *, simprocAttr]; refine zah (l9_.1 n (by omega) _ _ ?_ ?_ ?_ ?_ _ _ ?_); (iterate 4 (simp -dsimp -implicitDefEqProofs only [go_sem, *, simprocAttr])); simp only [zaR]; intro e m; simp -dsimp -implicitDefEqProofs only [go_sem, func114, f114, *, simprocAttr])
theorem zed {kk : Nat} {a : (Sl (Sl zal))} {sz : Nat} (hg : zEf sz) {r : Bool} (h : za7 kk sz a = some r) : Ev cfg 69 [(dSl (cSl zap) a), (.fn (.func 70) [] [])] (.bool r) := by
 have ⟨_, _, _, hI1, _, _, _, _⟩ := hg
 unfold za7 at h
 have E := evT
 obtain ⟨_, h1_, h⟩ := zaa h
 have E := E.and (hI1 a (zag h1_))
 obtain rfl := Option.some.inj h
 refine E.s fun n x => ?_
 simp -dsimp -implicitDefEqProofs only [go_sem, func69, f69, *, simprocAttr]
theorem zom {kk : Nat} {a : zad} {sz : Nat} (hg : zEf sz) {r : Bool} (h : zeO kk sz a = some r) : Ev cfg 73 [(.agg (zao a))] (.bool r) := by
 have ⟨hV, _, _, _, _, _, _, _⟩ := hg
 unfold zeO at h
 have E := evT
 obtain ⟨_, h1_, h⟩ := zaa h
 have E := E.and (hV a.ann (zag h1_))
 rcases Bool.eq_false_or_eq_true (((zbZ a.ann))) with h2_ | h2_
 rotate_left
 rotate_left
 all_goals
  obtain rfl := Option.some.inj h
  refine E.s fun n x => ?_
  simp -dsimp -implicitDefEqProofs only [go_sem, func73, f73, *, simprocAttr]
def zaW (c1 : Sl zad) (c2 : Int) (K : Ex → St → Option Res) (R : Option Res) : Out (Int) (Int) → Prop
 | .ret r => ∀ (e : Env) (m : Mem), e 4 = (.int .i64 r) → K .ret ⟨e, m⟩ = R
 | .done q => ∀ (e : Env) (m : Mem), K (.exit 0) ⟨e, m⟩ = R
noncomputable def zeI : Code := zbq f116 [1, 0, 1, 0, 0]
theorem zcn {c1 : Sl zad} {c2 : Int} {sz : Nat} (hg : zEf sz) {kk : Nat} : ∀ {k : Nat} {s3 : Int} {out : Out (Int) (Int)}, zaG c1 c2 sz kk k s3 = some out → ∃ N, ∀ n, N ≤ n → ∀ k, N ≤ k → ∀ (e : Env) (m : Mem), e 0 = (dSl zao c1) → e 1 = (.fn (.func 73) [] []) → e 7 = (.int .i64 c2) → e 8 = (.int .i64 s3) → ∀ (K : Ex → St → Option Res) (R : Option Res), zaW c1 c2 K R out → zcj (zbH cfg (dfn cfg n) n zeI) K k ⟨e, m⟩ = R := by
 have ⟨_, _, _, _, _, hB2, _, _⟩ := hg
 intro k
 induction k with
 | zero => intro s3 out h; cases h
 | succ k ih => ?_
 intro s3 out h
 have ih := fun x0 {out} => @ih x0 out
 unfold zaG at h
 have E := evT
 rcases zac h with ⟨h1_, h⟩ | ⟨h1_, h⟩
 obtain ⟨y4, h2_, h⟩ := zaa h
 obtain ⟨_, h3_⟩ := zaI h2_
 have h3_ := zax h3_ zao
 obtain ⟨_, h4_, h⟩ := zaa h
 have E := E.and (hB2 y4 (zag h4_))
 rcases zac h with ⟨h5_, h⟩ | ⟨h5_, h⟩
 rotate_left
 rotate_left
 rotate_left
 all_goals
  first | (obtain rfl := Option.some.inj h; refine E.l fun n k x => ?_) | refine E.c (ih _ h) fun n k x I => ?_
  intro e m i0 i1 i2 i3 K R hK
  rw [zau]
  conv => lhs; arg 4; whnf
  first | (simp -dsimp -implicitDefEqProofs only [go_sem, *, simprocAttr]; simp only [zaW] at hK; refine hK _ _ ?_; simp -dsimp -implicitDefEqProofs only [go_sem, *, simprocAttr]) | (simp -dsimp -implicitDefEqProofs only [go_sem, *, simprocAttr]; refine zah (I.1 _ _ ?_ ?_ ?_ ?_ _ _ hK); (iterate 4 (simp -dsimp -implicitDefEqProofs only [go_sem, *, simprocAttr]))) | (simp -dsimp -implicitDefEqProofs only [go_sem, *, simprocAttr]; simp only [zaW] at hK; refine hK _ _)
theorem zfd {kk : Nat} {a : (Sl zad)} {sz : Nat} (hg : zEf sz) {r : Int} (h : zbn kk sz a = some r) : Ev cfg 116 [(dSl zao a), (.fn (.func 73) [] [])] (.int .i64 r) := by
 unfold zbn at h
 have E := evT
 rcases zaz h with ⟨r8_, o7_, h⟩ | ⟨q6, o7_, h⟩
 obtain ⟨_, l6_, E⟩ := E.lp (zcn hg o7_)
 rotate_left
 obtain ⟨_, l9_, E⟩ := E.lp (zcn hg o7_)
 rotate_left
 all_goals
  obtain rfl := Option.some.inj h
  refine E.s fun n x => ?_
  first | (have := l6_; simp -dsimp -implicitDefEqProofs only [go_sem, func116, f116, *, simprocAttr]; refine zah (l6_.1 n (by omega) _ _ ?_ ?_ ?_ ?_ _ _ ?_); (iterate 4 (simp -dsimp -implicitDefEqProofs only [go_sem, *, simprocAttr])); simp only [zaW]; intro e m i0; simp -dsimp -implicitDefEqProofs only [go_sem, func116, f116, *, simprocAttr]) | (have := l9_; simp -dsimp -implicitDefEqProofs only [go_sem, func116, f116, *, simprocAttr]; refine zah (l9_.1 n (by omega) _ _ ?_ ?_ ?_ ?_ _ _ ?_); (iterate 4 (simp -dsimp -implicitDefEqProofs only [go_sem, *, simprocAttr])); simp only [zaW]; intro e m; simp -dsimp -implicitDefEqProofs only [go_sem, func116, f116, *, simprocAttr])
theorem zey {kk : Nat} {a : (Sl zad)} {sz : Nat} (hg : zEf sz) {r : Bool} (h : zbc kk sz a = some r) : Ev cfg 72 [(dSl zao a), (.fn (.func 73) [] [])] (.bool r) := by
 have ⟨_, _, _, _, _, _, hI2, _⟩ := hg
 unfold zbc at h
 have E := evT
 obtain ⟨_, h1_, h⟩ := zaa h
 have E := E.and (hI2 a (zag h1_))
 obtain rfl := Option.some.inj h
 refine E.s fun n x => ?_
 simp -dsimp -implicitDefEqProofs only [go_sem, func72, f72, *, simprocAttr]
theorem zBI : ∀ s : Nat, s < big → zEf s := by
 intro s
 induction s with
 | zero => intro _; exact ⟨fun _ h => absurd h (by omega), fun _ h => absurd h (by omega), fun _ h => absurd h (by omega), fun _ h => absurd h (by omega), fun _ h => absurd h (by omega), fun _ h => absurd h (by omega), fun _ h => absurd h (by omega), fun _ h => absurd h (by omega)⟩
 | succ s ih =>
   intro hb
   have hg := ih (by omega)
   exact ⟨
    fun a h => zup (sz := s) hg (zry (kk := s + 1) (sz := s) (by omega) (by omega) (by omega)),
    fun a h => zqj (sz := s) hg (znQ (kk := s + 1) (sz := s) (by omega) (by omega) (by omega)),
    fun a h => zon (sz := s) hg (zmr (kk := s + 1) (sz := s) (by omega) (by omega) (by omega)),
    fun a h => zeV (sz := s) hg (zef (kk := s + 1) (sz := s) (by omega) (by omega) (by omega)),
    fun a h => zed (sz := s) hg (zdM (kk := s + 1) (sz := s) (by omega) (by omega) (by omega)),
    fun a h => zom (sz := s) hg (zmq (kk := s + 1) (sz := s) (by omega) (by omega) (by omega)),
    fun a h => zfd (sz := s) hg (zeD (kk := s + 1) (sz := s) (by omega) (by omega) (by omega)),
    fun a h => zey (sz := s) hg (zd6 (kk := s + 1) (sz := s) (by omega) (by omega) (by omega))⟩
theorem zhF (a : (Sl zal)) (h : 20 * zak a.l + 1 < big - 1) : Ev cfg 8 [(dSl zap a)] (.bool (zbZ a)) := (zBI (big - 1) (by unfold big; omega)).1 a h
end Go.Proofs.Tryz
set_option maxRecDepth 100000
set_option maxHeartbeats 4000000
set_option linter.unusedSimpArgs false
set_option linter.unusedVariables false
namespace Go.Proofs.Tryz
open Go.Ev
abbrev zRD (sz : Nat) : Prop := (∀ (a : Int), (0 ≤ a ∧ a ≤ 18446744073709551615 ∧ (zyW a).length < sz) → Ev cfg 105 [(.int .u64 a)] (.str (zyW a)))
theorem zDZ {kk : Nat} {a : Int} {sz : Nat} (hg : zRD sz) {r : Str} (h : znm kk sz a = some r) : Ev cfg 105 [(.int .u64 a)] (.str r) := by
 have hD := hg
 unfold znm at h
 have E := evT
 rcases zac h with ⟨h1_, h⟩ | ⟨h1_, h⟩
 rotate_left
 obtain ⟨_, h2_, h⟩ := zaa h
 have E := E.and (hD (IntKind.wrap .u64 (a.tdiv 10)) (zag h2_))
 obtain ⟨_, h3_, h⟩ := zaa h
 have h3_ := zag h3_
 try simp -dsimp -implicitDefEqProofs only [go_sem, simprocAttr] at h3_
 rotate_left
 all_goals
  obtain rfl := Option.some.inj h
  refine E.s fun n x => ?_
  simp -dsimp -implicitDefEqProofs only [go_sem, func105, f105, *, simprocAttr]
theorem zy3 : ∀ s : Nat, s < big → zRD s := by
 intro s
 induction s with
 | zero => intro _; exact fun _ h => absurd h (by omega)
 | succ s ih =>
   intro hb
   have hg := ih (by omega)
   exact
    fun a h => zDZ (sz := s) hg (zyJ (kk := s + 1) (sz := s) (by omega) (by omega) (by omega))
theorem zwu (a : Int) (h : (0 ≤ a ∧ a ≤ 18446744073709551615 ∧ (zyW a).length < big - 1)) : Ev cfg 105 [(.int .u64 a)] (.str (zyW a)) := (zy3 (big - 1) (by unfold big; omega)) a h
theorem zBQ {kk : Nat} {a : Int} {r : Str} (h : zlH kk a = some r) : Ev cfg 53 [(.int .i64 a)] (.str r) := by
 unfold zlH at h
 have E := evT
 rcases zac h with ⟨h1_, h⟩ | ⟨h1_, h⟩
 obtain ⟨_, h2_, h⟩ := zaa h
 have E := E.and (zwu (IntKind.wrap .u64 (0 - (IntKind.wrap .u64 a))) (zag h2_))
 obtain ⟨_, h3_, h⟩ := zaa h
 have h3_ := zag h3_
 try simp -dsimp -implicitDefEqProofs only [go_sem, simprocAttr] at h3_
 rotate_left
 obtain ⟨_, h4_, h⟩ := zaa h
 have E := E.and (zwu (IntKind.wrap .u64 a) (zag h4_))
 rotate_left
 all_goals
  obtain rfl := Option.some.inj h
  refine E.s fun n x => ?_
  simp -dsimp -implicitDefEqProofs only [go_sem, func53, f53, *, simprocAttr]
theorem zj1 (a : Int) (h : zld a) : Ev cfg 53 [(.int .i64 a)] (.str (zb7 a)) := zBQ (zwN 0 a h)
def zjQ (c4 : Val) (K : Ex → St → Option Res) (R : Option Res) : Out (Str) (Str × Int) → Prop
 | .ret r => ∀ (e : Env) (m : Mem), e 2 = (.str r) → K .ret ⟨e, m⟩ = R
 | .done q => ∀ (e : Env) (m : Mem), e 3 = (.str q.1) → K (.exit 0) ⟨e, m⟩ = R
noncomputable def zyR : Code := zbq f108 [1, 1, 1, 1, 1, 0, 1, 0, 0]
theorem zrs {c4 : Val} {kk : Nat} : ∀ {k : Nat} {s2 : Str} {s3 : Int} {out : Out (Str) (Str × Int)}, zgq c4 kk k s2 s3 = some out → ∃ N, ∀ n, N ≤ n → ∀ k, N ≤ k → ∀ (e : Env) (m : Mem), zci (e 1) m 1 3 (zhj c4) → e 3 = (.str s2) → e 4 = (.int .i64 s3) → ∀ (K : Ex → St → Option Res) (R : Option Res), zjQ c4 K R out → zcj (zbH cfg (dfn cfg n) n zyR) K k ⟨e, m⟩ = R := by
 intro k
 induction k with
 | zero => intro s2 s3 out h; cases h
 | succ k ih => ?_
 intro s2 s3 out h
 have ih := fun x0 x1 {out} => @ih x0 x1 out
 unfold zgq at h
 have E := evT
 rcases zac h with ⟨h1_, h⟩ | ⟨h1_, h⟩
 obtain ⟨y5, h2_, h⟩ := zaa h
 have h2_ : zhq prog (some (.int .i64 s3)) (some (.int .i64 (IntKind.wrap .i64 (s3 + 1)))) none (.str c4.text) .str = pure (.str y5) := zkr h2_ prog
 obtain ⟨_, h3_, h⟩ := zaa h
 have h3_ := zag h3_
 try simp -dsimp -implicitDefEqProofs only [go_sem, simprocAttr] at h3_
 obtain ⟨y7, h4_, h⟩ := zaa h
 obtain ⟨_, h5_⟩ := zaI h4_
 rcases zac h with ⟨h6_, h⟩ | ⟨h6_, h⟩
 obtain ⟨_, h7_, h⟩ := zaa h
 have h7_ := zag h7_
 try simp -dsimp -implicitDefEqProofs only [go_sem, simprocAttr] at h7_
 rotate_left
 rotate_left
 rotate_left
 all_goals
  first | (obtain rfl := Option.some.inj h; refine E.l fun n k x => ?_) | refine E.c (ih _ _ h) fun n k x I => ?_
  intro e m i0 i1 i2 K R hK
  obtain ⟨_, _, _⟩ := i0
  rw [zau]
  conv => lhs; arg 4; whnf
  first | (simp -dsimp -implicitDefEqProofs only [go_sem, *, simprocAttr]; refine zah (I.1 _ _ ?_ ?_ ?_ _ _ hK); (iterate 3 (simp -dsimp -implicitDefEqProofs only [go_sem, *, simprocAttr]))) | (simp -dsimp -implicitDefEqProofs only [go_sem, *, simprocAttr]; simp only [zjQ] at hK; refine hK _ _ ?_; simp -dsimp -implicitDefEqProofs only [go_sem, *, simprocAttr])
theorem zDY {kk : Nat} {a : Val} {r : Str} (h : znl kk a = some r) : Ev cfg 108 [(.agg (zhj a))] (.str r) := by
 unfold znl at h
 have E := evT
 have E := E.and (ztj a)
 rcases zac h with ⟨h8_, h⟩ | ⟨h8_, h⟩
 have b9_ := zaq h8_
 rotate_left
 have b10_ := zam h8_
 rcases zac h with ⟨h11_, h⟩ | ⟨h11_, h⟩
 obtain ⟨_, h12_, h⟩ := zaa h
 have E := E.and (zj1 a.int (zag h12_))
 rotate_left
 rcases zac h with ⟨h13_, h⟩ | ⟨h13_, h⟩
 rcases zac h with ⟨h14_, h⟩ | ⟨h14_, h⟩
 rotate_left
 rotate_left
 rcases zaz h with ⟨r17_, o16_, h⟩ | ⟨q9, o16_, h⟩
 obtain ⟨_, l15_, E⟩ := E.lp (zrs o16_)
 rotate_left
 obtain ⟨_, l18_, E⟩ := E.lp (zrs o16_)
 obtain ⟨_, h19_, h⟩ := zaa h
 have h19_ := zag h19_
 try simp -dsimp -implicitDefEqProofs only [go_sem, simprocAttr] at h19_
 rotate_left
 all_goals
  obtain rfl := Option.some.inj h
  refine E.s fun n x => ?_
  first | (have := l15_; simp -dsimp -implicitDefEqProofs only [go_sem, func108, f108, *, simprocAttr]; refine zah (l15_.1 n (by omega) _ _ ?_ ?_ ?_ _ _ ?_); (iterate 3 (simp -dsimp -implicitDefEqProofs only [go_sem, *, simprocAttr])); simp only [zjQ]; intro e m i0; simp -dsimp -implicitDefEqProofs only [go_sem, func108, f108, *, simprocAttr]) | (have := l18_; simp -dsimp -implicitDefEqProofs only [go_sem, func108, f108, *, simprocAttr]; refine zah (l18_.1 n (by omega) _ _ ?_ ?_ ?_ _ _ ?_); (iterate 3 (simp -dsimp -implicitDefEqProofs only [go_sem, *, simprocAttr])); simp only [zjQ]; intro e m i0; simp -dsimp -implicitDefEqProofs only [go_sem, func108, f108, *, simprocAttr]) | (simp -dsimp -implicitDefEqProofs only [go_sem, func108, f108, *, simprocAttr])
theorem zwt (a : Val) (h : zld a.int) : Ev cfg 108 [(.agg (zhj a))] (.str (zdy a)) := zDY (zyI (kk := big) a h (by decide))
theorem zzw {kk : Nat} {a : Int} {r : Str} (h : zkC kk a = some r) : Ev cfg 107 [(.int .i64 a)] (.str r) := by
 unfold zkC at h
 have E := evT
 obtain ⟨y1, h1_, h⟩ := zaa h
 have dh1_ := zPY h1_
 obtain ⟨_, h2_⟩ := zaI h1_
 have h2_ := zax h2_ zrk
 try simp -dsimp -implicitDefEqProofs only [go_sem, simprocAttr] at h2_
 try simp -dsimp -implicitDefEqProofs only [go_sem, simprocAttr] at dh1_
 obtain rfl := Option.some.inj h
 refine E.s fun n x => ?_
 simp -dsimp -implicitDefEqProofs only [go_sem, func107, f107, *, simprocAttr]
theorem zzF (a : Int) (h : 0 ≤ a ∧ a ≤ 3) : Ev cfg 107 [(.int .i64 a)] (.str (nth zc9 a)) := zzw (zvQ 0 a h)
theorem zDW {kk : Nat} {a : Int} {r : Str} (h : znj kk a = some r) : Ev cfg 109 [(.int .i64 a)] (.str r) := by
 unfold znj at h
 have E := evT
 obtain ⟨y1, h1_, h⟩ := zaa h
 have dh1_ := zPY h1_
 obtain ⟨_, h2_⟩ := zaI h1_
 have h2_ := zax h2_ zrk
 try simp -dsimp -implicitDefEqProofs only [go_sem, simprocAttr] at h2_
 try simp -dsimp -implicitDefEqProofs only [go_sem, simprocAttr] at dh1_
 obtain rfl := Option.some.inj h
 refine E.s fun n x => ?_
 simp -dsimp -implicitDefEqProofs only [go_sem, func109, f109, *, simprocAttr]
theorem zD5 (a : Int) (h : 5 ≤ a ∧ a ≤ 10) : Ev cfg 109 [(.int .i64 a)] (.str (opS a)) := zDW (zyG 0 a h)
theorem zBN {kk : Nat} {a : zbw} {r : Str} (h : zlE kk a = some r) : Ev cfg 106 [(.agg (zcI a))] (.str r) := by
 unfold zlE at h
 have E := evT
 obtain ⟨_, h1_, h⟩ := zaa h
 have E := E.and (zj1 a.table (zag h1_))
 obtain ⟨_, h2_, h⟩ := zaa h
 have h2_ := zag h2_
 try simp -dsimp -implicitDefEqProofs only [go_sem, simprocAttr] at h2_
 obtain ⟨_, h3_, h⟩ := zaa h
 have h3_ := zag h3_
 try simp -dsimp -implicitDefEqProofs only [go_sem, simprocAttr] at h3_
 obtain ⟨_, h4_, h⟩ := zaa h
 have E := E.and (zj1 a.seq (zag h4_))
 obtain ⟨_, h5_, h⟩ := zaa h
 have h5_ := zag h5_
 try simp -dsimp -implicitDefEqProofs only [go_sem, simprocAttr] at h5_
 obtain rfl := Option.some.inj h
 refine E.s fun n x => ?_
 simp -dsimp -implicitDefEqProofs only [go_sem, func106, f106, *, simprocAttr]
theorem zB2 (a : zbw) (h : zu0 a) : Ev cfg 106 [(.agg (zcI a))] (.str (zrN a)) := zBN (zwK 0 a h)
theorem zyq {kk : Nat} {a : zbw} {r : Str} (h : zjX kk a = some r) : Ev cfg 134 [(.agg (zcI a))] (.str r) := by
 unfold zjX at h
 have E := evT
 have E := E.and (zsL a)
 rcases zac h with ⟨h1_, h⟩ | ⟨h1_, h⟩
 have b2_ := zaq h1_
 rotate_left
 have b3_ := zam h1_
 obtain ⟨_, h4_, h⟩ := zaa h
 have e5_ := zxF a.table (zag h4_)
 obtain ⟨_, h6_, h⟩ := zaa h
 have h6_ := zag h6_
 try simp -dsimp -implicitDefEqProofs only [go_sem, simprocAttr] at h6_
 obtain ⟨_, h7_, h⟩ := zaa h
 have h7_ := zag h7_
 try simp -dsimp -implicitDefEqProofs only [go_sem, simprocAttr] at h7_
 obtain ⟨_, h8_, h⟩ := zaa h
 have e9_ := zxF a.seq (zag h8_)
 obtain ⟨_, h10_, h⟩ := zaa h
 have h10_ := zag h10_
 try simp -dsimp -implicitDefEqProofs only [go_sem, simprocAttr] at h10_
 rotate_left
 all_goals
  obtain rfl := Option.some.inj h
  refine E.s fun n x => ?_
  simp -dsimp -implicitDefEqProofs only [go_sem, func134, f134, *, simprocAttr]
theorem zyM (a : zbw) (h : zu0 a) : Ev cfg 134 [(.agg (zcI a))] (.str (zjc a)) := zyq (zuL 0 a h)
theorem zql {kk : Nat} {r : (Sl Str)} (h : zht kk = some r) : Ev cfg 136 [] (dSl zrk r) := by
 unfold zht at h
 have E := evT
 obtain rfl := Option.some.inj h
 refine E.s fun n x => ?_
 simp -dsimp -implicitDefEqProofs only [go_sem, func136, f136, *, simprocAttr]
theorem zj9  : Ev cfg 136 [] (dSl zrk (zkw )) := zql (znS 0 )
theorem zqk {kk : Nat} {r : (Sl Str)} (h : zhs kk = some r) : Ev cfg 137 [] (dSl zrk r) := by
 unfold zhs at h
 have E := evT
 obtain rfl := Option.some.inj h
 refine E.s fun n x => ?_
 simp -dsimp -implicitDefEqProofs only [go_sem, func137, f137, *, simprocAttr]
theorem zj8  : Ev cfg 137 [] (dSl zrk (zgC )) := zqk (znR 0 )
theorem zzr {kk : Nat} {a : Val} {r : Str} (h : zky kk a = some r) : Ev cfg 135 [(.agg (zhj a))] (.str r) := by
 unfold zky at h
 have E := evT
 have E := E.and (zpO a)
 rcases zac h with ⟨h1_, h⟩ | ⟨h1_, h⟩
 have b2_ := zaq h1_
 rotate_left
 have b3_ := zam h1_
 rcases zac h with ⟨h4_, h⟩ | ⟨h4_, h⟩
 obtain ⟨_, h5_, h⟩ := zaa h
 have e6_ : zid [(.int .i64 a.int), (.int .i64 10)] = some (.str (zt1 a.int 10)) := znv a.int 10 (zag h5_)
 rotate_left
 rcases zac h with ⟨h7_, h⟩ | ⟨h7_, h⟩
 obtain ⟨_, h8_, h⟩ := zaa h
 have e9_ := zl1 a.text [39] [39, 39] (zag h8_)
 obtain ⟨_, h10_, h⟩ := zaa h
 have h10_ := zag h10_
 try simp -dsimp -implicitDefEqProofs only [go_sem, simprocAttr] at h10_
 obtain ⟨_, h11_, h⟩ := zaa h
 have h11_ := zag h11_
 try simp -dsimp -implicitDefEqProofs only [go_sem, simprocAttr] at h11_
 rotate_left
 rcases zac h with ⟨h12_, h⟩ | ⟨h12_, h⟩
 rotate_left
 rotate_left
 all_goals
  obtain rfl := Option.some.inj h
  refine E.s fun n x => ?_
  simp -dsimp -implicitDefEqProofs only [go_sem, func135, f135, *, simprocAttr]
theorem zsK (a : Val) (h : zld a.int) : Ev cfg 135 [(.agg (zhj a))] (.str (zdy a)) := zzr (zvL 0 a h)
end Go.Proofs.Tryz
set_option maxRecDepth 100000
set_option maxHeartbeats 4000000
set_option linter.unusedSimpArgs false
set_option linter.unusedVariables false
namespace Go.Proofs.Tryz
open Go.Ev
def zpA (c24 : Sl zal) (c25 : Str) (c26 : Int) (c27 : Str) (c28 : Int) (c29 : Bool) (K : Ex → St → Option Res) (R : Option Res) (q : Str) : Prop := ∀ (e : Env) (m : Mem), e 0 = (dSl zap c24) → e 3 = (.str c25) → e 4 = (.int .i64 c26) → e 5 = (.str q) → e 6 = (.int .i64 c28) → K .normal ⟨e, m⟩ = R
noncomputable def zuU : Code := zbq f21 [1, 1, 1, 0, 1, 0, 0, 1, 0, 0, 1, 1, 1, 0, 1, 0, 0, 1, 0, 0, 0, 1]
abbrev zzy (sz : Nat) : Prop := (∀ (a : (Sl zal)), (zdl a.l = true ∧ zbv a.l ∧ zak a.l < lim ∧ 4 * zak a.l + 1 < sz) → Ev cfg 21 [(dSl zap a)] (.str (zcp a))) ∧ (∀ (a : zan), (zgw a = true ∧ zhG a ∧ zbx a < lim ∧ 4 * zbx a < sz) → Ev cfg 54 [(.agg (zbj a))] (.str (zfs a)))
theorem zBS {c24 : Sl zal} {c25 : Str} {c26 : Int} {c27 : Str} {c28 : Int} {c29 : Bool} {sz : Nat} (hg : zzy sz) {kk : Nat} {out : Str} (h : zne c24 c25 c26 c27 c28 c29 sz kk = some out) : ∃ N, ∀ n, N ≤ n → ∀ (e : Env) (m : Mem), e 0 = (dSl zap c24) → e 3 = (.str c25) → e 4 = (.int .i64 c26) → e 5 = (.str c27) → e 6 = (.int .i64 c28) → e 52 = (.bool (c29)) → ∀ (K : Ex → St → Option Res) (R : Option Res), zpA c24 c25 c26 c27 c28 c29 K R out → zbH cfg (dfn cfg n) n zuU K ⟨e, m⟩ = R := by
 unfold zne at h
 have E := evT
 rcases zac h with ⟨h1_, h⟩ | ⟨h1_, h⟩
 obtain ⟨_, h2_, h⟩ := zaa h
 have h2_ := zag h2_
 try simp -dsimp -implicitDefEqProofs only [go_sem, simprocAttr] at h2_
 rotate_left
 rotate_left
 all_goals
  obtain rfl := Option.some.inj h
  refine E.j fun n x => ?_
  intro e m i0 i1 i2 i3 i4 i5 K R hK
  (conv => lhs; arg 4; whnf)
  simp -dsimp -implicitDefEqProofs only [go_sem, *, simprocAttr]
  simp only [zpA] at hK
  refine hK _ _ ?_ ?_ ?_ ?_ ?_
  (iterate 5 (simp -dsimp -implicitDefEqProofs only [go_sem, *, simprocAttr]))
def zly (c18 : Sl zal) (c19 : Str) (c20 : Int) (K : Ex → St → Option Res) (R : Option Res) : Out (Str) (Str × Int) → Prop
 | .ret r => ∀ (e : Env) (m : Mem), e 2 = (.str r) → K .ret ⟨e, m⟩ = R
 | .done q => ∀ (e : Env) (m : Mem), e 0 = (dSl zap c18) → e 3 = (.str c19) → e 4 = (.int .i64 c20) → e 5 = (.str q.1) → K (.exit 2) ⟨e, m⟩ = R
noncomputable def zB6 : Code := zbq f21 [1, 1, 1, 0, 1, 0, 0, 1, 0, 0, 1, 1, 1, 0, 1, 0, 0]
theorem zus {c18 : Sl zal} {c19 : Str} {c20 : Int} {sz : Nat} (hg : zzy sz) {kk : Nat} : ∀ {k : Nat} {s21 : Str} {s22 : Int} {out : Out (Str) (Str × Int)}, zdr c18 c19 c20 sz kk k s21 s22 = some out → ∃ N, ∀ n, N ≤ n → ∀ k, N ≤ k → ∀ (e : Env) (m : Mem), e 0 = (dSl zap c18) → e 3 = (.str c19) → e 4 = (.int .i64 c20) → e 5 = (.str s21) → e 6 = (.int .i64 s22) → ∀ (K : Ex → St → Option Res) (R : Option Res), zly c18 c19 c20 K R out → zcj (zbH cfg (dfn cfg n) n zB6) K k ⟨e, m⟩ = R := by
 have ⟨_, hX⟩ := hg
 intro k
 induction k with
 | zero => intro s21 s22 out h; cases h
 | succ k ih => ?_
 intro s21 s22 out h
 have ih := fun x0 x1 {out} => @ih x0 x1 out
 unfold zdr at h
 have E := evT
 obtain ⟨y23, h3_, h⟩ := zaa h
 obtain ⟨_, h4_⟩ := zaI h3_
 have h4_ := zax h4_ zap
 rcases zac h with ⟨h5_, h⟩ | ⟨h5_, h⟩
 obtain ⟨q31, o7_, h⟩ := zaa h
 obtain ⟨_, l6_, E⟩ := E.lj (zBS hg o7_)
 obtain ⟨y32, h9_, h⟩ := zaa h
 obtain ⟨_, h10_⟩ := zaI h9_
 have h10_ := zax h10_ zar
 obtain ⟨_, h11_, h⟩ := zaa h
 have E := E.and (hX y32.atom (zag h11_))
 obtain ⟨_, h12_, h⟩ := zaa h
 have h12_ := zag h12_
 try simp -dsimp -implicitDefEqProofs only [go_sem, simprocAttr] at h12_
 rcases zac h with ⟨h13_, h⟩ | ⟨h13_, h⟩
 obtain ⟨_, h14_, h⟩ := zaa h
 have h14_ := zag h14_
 try simp -dsimp -implicitDefEqProofs only [go_sem, simprocAttr] at h14_
 obtain ⟨_, h15_, h⟩ := zaa h
 have E := E.and (zj1 y32.exp (zag h15_))
 obtain ⟨_, h16_, h⟩ := zaa h
 have h16_ := zag h16_
 try simp -dsimp -implicitDefEqProofs only [go_sem, simprocAttr] at h16_
 rotate_left
 rotate_left
 rotate_left
 all_goals
  first | (obtain rfl := Option.some.inj h; refine E.l fun n k x => ?_) | refine E.c (ih _ _ h) fun n k x I => ?_
  intro e m i0 i1 i2 i3 i4 K R hK
  have j0 := zeL cfg (dfn cfg n) n zuU
  (conv at j0 => intro k s; lhs; arg 4; whnf)
  rw [zau]
  (conv => lhs; arg 4; whnf)
  first | (have := l6_; simp -dsimp -implicitDefEqProofs only [go_sem, ↓j0, *, simprocAttr]; refine zgc (l6_.1 n (by omega) _ _ ?_ ?_ ?_ ?_ ?_ ?_ _ _ ?_); (iterate 6 (simp -dsimp -implicitDefEqProofs only [go_sem, *, simprocAttr])); simp only [zpA]; intro e m i0 i1 i2 i3 i4; (try simp -dsimp -implicitDefEqProofs only [go_sem, ↓j0, *, simprocAttr]); refine zah (I.1 _ _ ?_ ?_ ?_ ?_ ?_ _ _ hK); (iterate 5 (simp -dsimp -implicitDefEqProofs only [go_sem, *, simprocAttr]))) | ((try simp -dsimp -implicitDefEqProofs only [go_sem, ↓j0, *, simprocAttr]); simp only [zly] at hK; refine hK _ _ ?_ ?_ ?_ ?_; (iterate 4 (simp -dsimp -implicitDefEqProofs only [go_sem, *, simprocAttr])))
def zpB (c11 : Sl zal) (c12 : Str) (c13 : Int) (c14 : Bool) (K : Ex → St → Option Res) (R : Option Res) (q : Str) : Prop := ∀ (e : Env) (m : Mem), e 0 = (dSl zap c11) → e 3 = (.str c12) → e 4 = (.int .i64 c13) → e 5 = (.str q) → K .normal ⟨e, m⟩ = R
noncomputable def zuV : Code := zbq f21 [1, 1, 1, 0, 1, 0, 0, 1, 0, 0, 1, 1, 0, 1]
theorem zBT {c11 : Sl zal} {c12 : Str} {c13 : Int} {c14 : Bool} {sz : Nat} (hg : zzy sz) {kk : Nat} {out : Str} (h : zjf c11 c12 c13 c14 sz kk = some out) : ∃ N, ∀ n, N ≤ n → ∀ (e : Env) (m : Mem), e 0 = (dSl zap c11) → e 3 = (.str c12) → e 4 = (.int .i64 c13) → e 5 = (.str []) → e 34 = (.bool (c14)) → ∀ (K : Ex → St → Option Res) (R : Option Res), zpB c11 c12 c13 c14 K R out → zbH cfg (dfn cfg n) n zuV K ⟨e, m⟩ = R := by
 unfold zjf at h
 have E := evT
 rcases zac h with ⟨h17_, h⟩ | ⟨h17_, h⟩
 obtain ⟨y15, h18_, h⟩ := zaa h
 obtain ⟨_, h19_⟩ := zaI h18_
 have h19_ := zax h19_ zap
 obtain ⟨_, h20_, h⟩ := zaa h
 have E := E.and (zj1 y15.coeff (zag h20_))
 rotate_left
 rotate_left
 all_goals
  obtain rfl := Option.some.inj h
  refine E.j fun n x => ?_
  intro e m i0 i1 i2 i3 i4 K R hK
  (conv => lhs; arg 4; whnf)
  simp -dsimp -implicitDefEqProofs only [go_sem, *, simprocAttr]
  simp only [zpB] at hK
  refine hK _ _ ?_ ?_ ?_ ?_
  (iterate 4 (simp -dsimp -implicitDefEqProofs only [go_sem, *, simprocAttr]))
def zpC (c4 : Sl zal) (c5 : Str) (c6 : Int) (c7 : Bool) (K : Ex → St → Option Res) (R : Option Res) (q : Str) : Prop := ∀ (e : Env) (m : Mem), e 0 = (dSl zap c4) → e 3 = (.str q) → e 4 = (.int .i64 c6) → K .normal ⟨e, m⟩ = R
noncomputable def zuW : Code := zbq f21 [1, 1, 1, 0, 1, 0, 0, 1, 0, 0, 0, 1]
theorem zBU {c4 : Sl zal} {c5 : Str} {c6 : Int} {c7 : Bool} {sz : Nat} (hg : zzy sz) {kk : Nat} {out : Str} (h : znf c4 c5 c6 c7 sz kk = some out) : ∃ N, ∀ n, N ≤ n → ∀ (e : Env) (m : Mem), e 0 = (dSl zap c4) → e 3 = (.str c5) → e 4 = (.int .i64 c6) → e 17 = (.bool (c7)) → ∀ (K : Ex → St → Option Res) (R : Option Res), zpC c4 c5 c6 c7 K R out → zbH cfg (dfn cfg n) n zuW K ⟨e, m⟩ = R := by
 unfold znf at h
 have E := evT
 rcases zac h with ⟨h21_, h⟩ | ⟨h21_, h⟩
 obtain ⟨_, h22_, h⟩ := zaa h
 have h22_ := zag h22_
 try simp -dsimp -implicitDefEqProofs only [go_sem, simprocAttr] at h22_
 rotate_left
 rotate_left
 all_goals
  obtain rfl := Option.some.inj h
  refine E.j fun n x => ?_
  intro e m i0 i1 i2 i3 K R hK
  (conv => lhs; arg 4; whnf)
  simp -dsimp -implicitDefEqProofs only [go_sem, *, simprocAttr]
  simp only [zpC] at hK
  refine hK _ _ ?_ ?_ ?_
  (iterate 3 (simp -dsimp -implicitDefEqProofs only [go_sem, *, simprocAttr]))
def zjN (c1 : Sl zal) (K : Ex → St → Option Res) (R : Option Res) : Out (Str) (Str × Int) → Prop
 | .ret r => ∀ (e : Env) (m : Mem), e 2 = (.str r) → K .ret ⟨e, m⟩ = R
 | .done q => ∀ (e : Env) (m : Mem), e 3 = (.str q.1) → K (.exit 0) ⟨e, m⟩ = R
noncomputable def zB7 : Code := zbq f21 [1, 1, 1, 0, 1, 0, 0]
theorem zut {c1 : Sl zal} {sz : Nat} (hg : zzy sz) {kk : Nat} : ∀ {k : Nat} {s2 : Str} {s3 : Int} {out : Out (Str) (Str × Int)}, zfx c1 sz kk k s2 s3 = some out → ∃ N, ∀ n, N ≤ n → ∀ k, N ≤ k → ∀ (e : Env) (m : Mem), e 0 = (dSl zap c1) → e 3 = (.str s2) → e 4 = (.int .i64 s3) → ∀ (K : Ex → St → Option Res) (R : Option Res), zjN c1 K R out → zcj (zbH cfg (dfn cfg n) n zB7) K k ⟨e, m⟩ = R := by
 intro k
 induction k with
 | zero => intro s2 s3 out h; cases h
 | succ k ih => ?_
 intro s2 s3 out h
 have ih := fun x0 x1 {out} => @ih x0 x1 out
 unfold zfx at h
 have E := evT
 rcases zac h with ⟨h23_, h⟩ | ⟨h23_, h⟩
 obtain ⟨q9, o25_, h⟩ := zaa h
 obtain ⟨_, l24_, E⟩ := E.lj (zBU hg o25_)
 obtain ⟨y10, h27_, h⟩ := zaa h
 obtain ⟨_, h28_⟩ := zaI h27_
 have h28_ := zax h28_ zap
 obtain ⟨q17, o30_, h⟩ := zaa h
 obtain ⟨_, l29_, E⟩ := E.lj (zBT hg o30_)
 rcases zaz h with ⟨r34_, o33_, h⟩ | ⟨q38, o33_, h⟩
 obtain ⟨_, l32_, E⟩ := E.lp (zus hg o33_)
 rcases Bool.eq_false_or_eq_true ((y10.coeff != 1)) with h35_ | h35_
 rotate_left
 rotate_left
 obtain ⟨_, l36_, E⟩ := E.lp (zus hg o33_)
 obtain ⟨_, h37_, h⟩ := zaa h
 have h37_ := zag h37_
 try simp -dsimp -implicitDefEqProofs only [go_sem, simprocAttr] at h37_
 rcases Bool.eq_false_or_eq_true ((y10.coeff != 1)) with h38_ | h38_
 rotate_left
 rotate_left
 rotate_left
 all_goals
  first | (obtain rfl := Option.some.inj h; refine E.l fun n k x => ?_) | refine E.c (ih _ _ h) fun n k x I => ?_
  intro e m i0 i1 i2 K R hK
  have j0 := zeL cfg (dfn cfg n) n zuW
  (conv at j0 => intro k s; lhs; arg 4; whnf)
  have j1 := zeL cfg (dfn cfg n) n zuV
  (conv at j1 => intro k s; lhs; arg 4; whnf)
  rw [zau]
  (conv => lhs; arg 4; whnf)
  first | (have := l24_; simp -dsimp -implicitDefEqProofs only [go_sem, ↓j0, ↓j1, *, simprocAttr]; refine zgc (l24_.1 n (by omega) _ _ ?_ ?_ ?_ ?_ _ _ ?_); (iterate 4 (simp -dsimp -implicitDefEqProofs only [go_sem, *, simprocAttr])); simp only [zpC]; intro e m i0 i1 i2; (try simp -dsimp -implicitDefEqProofs only [go_sem, ↓j0, ↓j1, *, simprocAttr]); refine zgc (l29_.1 n (by omega) _ _ ?_ ?_ ?_ ?_ ?_ _ _ ?_); (iterate 5 (simp -dsimp -implicitDefEqProofs only [go_sem, *, simprocAttr])); simp only [zpB]; intro e m i0 i1 i2 i3; (first | (have := l32_; (try simp -dsimp -implicitDefEqProofs only [go_sem, ↓j0, ↓j1, *, simprocAttr]); refine zah (l32_.1 n (by omega) _ _ ?_ ?_ ?_ ?_ ?_ _ _ ?_); (iterate 5 (simp -dsimp -implicitDefEqProofs only [go_sem, *, simprocAttr])); simp only [zly]; intro e m i0; (try simp -dsimp -implicitDefEqProofs only [go_sem, ↓j0, ↓j1, *, simprocAttr]); simp only [zjN] at hK; refine hK _ _ ?_; simp -dsimp -implicitDefEqProofs only [go_sem, *, simprocAttr]) | (have := l36_; (try simp -dsimp -implicitDefEqProofs only [go_sem, ↓j0, ↓j1, *, simprocAttr]); refine zah (l36_.1 n (by omega) _ _ ?_ ?_ ?_ ?_ ?_ _ _ ?_); (iterate 5 (simp -dsimp -implicitDefEqProofs only [go_sem, *, simprocAttr])); simp only [zly]; intro e m i0 i1 i2 i3; (try simp -dsimp -implicitDefEqProofs only [go_sem, ↓j0, ↓j1, *, simprocAttr]); refine zah (I.1 _ _ ?_ ?_ ?_ _ _ hK); (iterate 3 (simp -dsimp -implicitDefEqProofs only [go_sem, *, simprocAttr]))))) | ((try simp -dsimp -implicitDefEqProofs only [go_sem, ↓j0, ↓j1, *, simprocAttr]); simp only [zjN] at hK; refine hK _ _ ?_; simp -dsimp -implicitDefEqProofs only [go_sem, *, simprocAttr])
theorem zIf {kk : Nat} {a : (Sl zal)} {sz : Nat} (hg : zzy sz) {r : Str} (h : zr0 kk sz a = some r) : Ev cfg 21 [(dSl zap a)] (.str r) := by
 unfold zr0 at h
 have E := evT
 rcases zac h with ⟨h39_, h⟩ | ⟨h39_, h⟩
 rotate_left
 rcases zaz h with ⟨r42_, o41_, h⟩ | ⟨q40, o41_, h⟩
 obtain ⟨_, l40_, E⟩ := E.lp (zut hg o41_)
 rotate_left
 obtain ⟨_, l43_, E⟩ := E.lp (zut hg o41_)
 rotate_left
 all_goals
  obtain rfl := Option.some.inj h
  refine E.s fun n x => ?_
  first | (have := l40_; simp -dsimp -implicitDefEqProofs only [go_sem, func21, f21, *, simprocAttr]; refine zah (l40_.1 n (by omega) _ _ ?_ ?_ ?_ _ _ ?_); (iterate 3 (simp -dsimp -implicitDefEqProofs only [go_sem, *, simprocAttr])); simp only [zjN]; intro e m i0; simp -dsimp -implicitDefEqProofs only [go_sem, func21, f21, *, simprocAttr]) | (have := l43_; simp -dsimp -implicitDefEqProofs only [go_sem, func21, f21, *, simprocAttr]; refine zah (l43_.1 n (by omega) _ _ ?_ ?_ ?_ _ _ ?_); (iterate 3 (simp -dsimp -implicitDefEqProofs only [go_sem, *, simprocAttr])); simp only [zjN]; intro e m i0; simp -dsimp -implicitDefEqProofs only [go_sem, func21, f21, *, simprocAttr]) | (simp -dsimp -implicitDefEqProofs only [go_sem, func21, f21, *, simprocAttr])
def zkn (c24 : Str) (c25 : Int) (c26 : Bool) (c27 : zan) (K : Ex → St → Option Res) (R : Option Res) (q : Str) : Prop := ∀ (e : Env) (m : Mem), zci (e 1) m 1 10 (zbj c27) → e 3 = (.str q) → e 4 = (.int .i64 c25) → K .normal ⟨e, m⟩ = R
noncomputable def zoA : Code := zbq f54 [1, 1, 1, 0, 1, 0, 0, 1, 0, 0, 0, 1]
theorem zvH {c24 : Str} {c25 : Int} {c26 : Bool} {c27 : zan} {sz : Nat} (hg : zzy sz) {kk : Nat} {out : Str} (h : ziX c24 c25 c26 c27 sz kk = some out) : ∃ N, ∀ n, N ≤ n → ∀ (e : Env) (m : Mem), zci (e 1) m 1 10 (zbj c27) → e 3 = (.str c24) → e 4 = (.int .i64 c25) → e 59 = (.bool (c26)) → ∀ (K : Ex → St → Option Res) (R : Option Res), zkn c24 c25 c26 c27 K R out → zbH cfg (dfn cfg n) n zoA K ⟨e, m⟩ = R := by
 unfold ziX at h
 have E := evT
 rcases zac h with ⟨h1_, h⟩ | ⟨h1_, h⟩
 obtain ⟨_, h2_, h⟩ := zaa h
 have h2_ := zag h2_
 try simp -dsimp -implicitDefEqProofs only [go_sem, simprocAttr] at h2_
 rotate_left
 rotate_left
 all_goals
  obtain rfl := Option.some.inj h
  refine E.j fun n x => ?_
  intro e m i0 i1 i2 i3 K R hK
  obtain ⟨_, _, _⟩ := i0
  (conv => lhs; arg 4; whnf)
  simp -dsimp -implicitDefEqProofs only [go_sem, *, simprocAttr]
  simp only [zkn] at hK
  refine hK _ _ ?_ ?_ ?_
  (iterate 3 (simp -dsimp -implicitDefEqProofs only [go_sem, *, simprocAttr]))
def zim (c23 : zan) (K : Ex → St → Option Res) (R : Option Res) : Out (Str) (Str × Int) → Prop
 | .ret r => ∀ (e : Env) (m : Mem), e 2 = (.str r) → K .ret ⟨e, m⟩ = R
 | .done q => ∀ (e : Env) (m : Mem), zci (e 1) m 1 10 (zbj c23) → e 3 = (.str q.1) → K (.exit 1) ⟨e, m⟩ = R
noncomputable def zvX : Code := zbq f54 [1, 1, 1, 0, 1, 0, 0]
theorem zou {c23 : zan} {sz : Nat} (hg : zzy sz) {kk : Nat} : ∀ {k : Nat} {s21 : Str} {s22 : Int} {out : Out (Str) (Str × Int)}, zcP c23 sz kk k s21 s22 = some out → ∃ N, ∀ n, N ≤ n → ∀ k, N ≤ k → ∀ (e : Env) (m : Mem), zci (e 1) m 1 10 (zbj c23) → e 3 = (.str s21) → e 4 = (.int .i64 s22) → ∀ (K : Ex → St → Option Res) (R : Option Res), zim c23 K R out → zcj (zbH cfg (dfn cfg n) n zvX) K k ⟨e, m⟩ = R := by
 have ⟨hT, _⟩ := hg
 intro k
 induction k with
 | zero => intro s21 s22 out h; cases h
 | succ k ih => ?_
 intro s21 s22 out h
 have ih := fun x0 x1 {out} => @ih x0 x1 out
 unfold zcP at h
 have E := evT
 rcases zac h with ⟨h3_, h⟩ | ⟨h3_, h⟩
 obtain ⟨q29, o5_, h⟩ := zaa h
 obtain ⟨_, l4_, E⟩ := E.lj (zvH hg o5_)
 obtain ⟨y30, h7_, h⟩ := zaa h
 obtain ⟨_, h8_⟩ := zaI h7_
 have h8_ := zax h8_ zao
 obtain ⟨_, h9_, h⟩ := zaa h
 have E := E.and (zwt y30.value (zag h9_))
 obtain ⟨_, h10_, h⟩ := zaa h
 have h10_ := zag h10_
 try simp -dsimp -implicitDefEqProofs only [go_sem, simprocAttr] at h10_
 obtain ⟨_, h11_, h⟩ := zaa h
 have h11_ := zag h11_
 try simp -dsimp -implicitDefEqProofs only [go_sem, simprocAttr] at h11_
 obtain ⟨_, h12_, h⟩ := zaa h
 have E := E.and (hT y30.ann (zag h12_))
 obtain ⟨_, h13_, h⟩ := zaa h
 have h13_ := zag h13_
 try simp -dsimp -implicitDefEqProofs only [go_sem, simprocAttr] at h13_
 rotate_left
 rotate_left
 all_goals
  first | (obtain rfl := Option.some.inj h; refine E.l fun n k x => ?_) | refine E.c (ih _ _ h) fun n k x I => ?_
  intro e m i0 i1 i2 K R hK
  obtain ⟨_, _, _⟩ := i0
  have j0 := zeL cfg (dfn cfg n) n zoA
  (conv at j0 => intro k s; lhs; arg 4; whnf)
  rw [zau]
  (conv => lhs; arg 4; whnf)
  first | (have := l4_; simp -dsimp -implicitDefEqProofs only [go_sem, ↓j0, *, simprocAttr]; refine zgc (l4_.1 n (by omega) _ _ ?_ ?_ ?_ ?_ _ _ ?_); (iterate 4 (simp -dsimp -implicitDefEqProofs only [go_sem, *, simprocAttr])); simp only [zkn]; intro e m i0 i1 i2; obtain ⟨_, _, _⟩ := i0; (try simp -dsimp -implicitDefEqProofs only [go_sem, ↓j0, *, simprocAttr]); refine zah (I.1 _ _ ?_ ?_ ?_ _ _ hK); (iterate 3 (simp -dsimp -implicitDefEqProofs only [go_sem, *, simprocAttr]))) | ((try simp -dsimp -implicitDefEqProofs only [go_sem, ↓j0, *, simprocAttr]); simp only [zim] at hK; refine hK _ _ ?_ ?_; (iterate 2 (simp -dsimp -implicitDefEqProofs only [go_sem, *, simprocAttr])))
theorem zzv {kk : Nat} {a : zan} {sz : Nat} (hg : zzy sz) {r : Str} (h : zkB kk sz a = some r) : Ev cfg 54 [(.agg (zbj a))] (.str r) := by
 have ⟨hT, _⟩ := hg
 unfold zkB at h
 have E := evT
 rcases zac h with ⟨h14_, h⟩ | ⟨h14_, h⟩
 obtain ⟨_, h15_, h⟩ := zaa h
 have E := E.and (zB2 a.row (zag h15_))
 rotate_left
 rcases zac h with ⟨h16_, h⟩ | ⟨h16_, h⟩
 obtain ⟨y2, h17_, h⟩ := zaa h
 have h17_ := zax h17_ (cSl zap)
 obtain ⟨_, h18_, h⟩ := zaa h
 have E := E.and (hT y2 (zag h18_))
 obtain ⟨_, h19_, h⟩ := zaa h
 have h19_ := zag h19_
 try simp -dsimp -implicitDefEqProofs only [go_sem, simprocAttr] at h19_
 obtain ⟨_, h20_, h⟩ := zaa h
 have h20_ := zag h20_
 try simp -dsimp -implicitDefEqProofs only [go_sem, simprocAttr] at h20_
 obtain ⟨y6, h21_, h⟩ := zaa h
 have h21_ := zax h21_ (cSl zap)
 obtain ⟨_, h22_, h⟩ := zaa h
 have E := E.and (hT y6 (zag h22_))
 obtain ⟨_, h23_, h⟩ := zaa h
 have h23_ := zag h23_
 try simp -dsimp -implicitDefEqProofs only [go_sem, simprocAttr] at h23_
 obtain ⟨_, h24_, h⟩ := zaa h
 have h24_ := zag h24_
 try simp -dsimp -implicitDefEqProofs only [go_sem, simprocAttr] at h24_
 rotate_left
 rcases zac h with ⟨h25_, h⟩ | ⟨h25_, h⟩
 obtain ⟨y10, h26_, h⟩ := zaa h
 have h26_ := zax h26_ (cSl zap)
 obtain ⟨_, h27_, h⟩ := zaa h
 have E := E.and (hT y10 (zag h27_))
 obtain ⟨_, h28_, h⟩ := zaa h
 have h28_ := zag h28_
 try simp -dsimp -implicitDefEqProofs only [go_sem, simprocAttr] at h28_
 obtain ⟨_, h29_, h⟩ := zaa h
 have h29_ := zag h29_
 try simp -dsimp -implicitDefEqProofs only [go_sem, simprocAttr] at h29_
 rotate_left
 rcases zac h with ⟨h30_, h⟩ | ⟨h30_, h⟩
 obtain ⟨y14, h31_, h⟩ := zaa h
 have h31_ := zax h31_ (cSl zap)
 obtain ⟨_, h32_, h⟩ := zaa h
 have E := E.and (hT y14 (zag h32_))
 obtain ⟨_, h33_, h⟩ := zaa h
 have h33_ := zag h33_
 try simp -dsimp -implicitDefEqProofs only [go_sem, simprocAttr] at h33_
 obtain ⟨_, h34_, h⟩ := zaa h
 have h34_ := zag h34_
 try simp -dsimp -implicitDefEqProofs only [go_sem, simprocAttr] at h34_
 rotate_left
 obtain ⟨_, h35_, h⟩ := zaa h
 have E := E.and (zzF a.func (zag h35_))
 obtain ⟨_, h36_, h⟩ := zaa h
 have h36_ := zag h36_
 try simp -dsimp -implicitDefEqProofs only [go_sem, simprocAttr] at h36_
 obtain ⟨_, h37_, h⟩ := zaa h
 have h37_ := zag h37_
 try simp -dsimp -implicitDefEqProofs only [go_sem, simprocAttr] at h37_
 rcases zaz h with ⟨r40_, o39_, h⟩ | ⟨q36, o39_, h⟩
 obtain ⟨_, l38_, E⟩ := E.lp (zou hg o39_)
 rotate_left
 obtain ⟨_, l41_, E⟩ := E.lp (zou hg o39_)
 obtain ⟨_, h42_, h⟩ := zaa h
 have h42_ := zag h42_
 try simp -dsimp -implicitDefEqProofs only [go_sem, simprocAttr] at h42_
 obtain ⟨_, h43_, h⟩ := zaa h
 have E := E.and (zD5 a.op (zag h43_))
 obtain ⟨_, h44_, h⟩ := zaa h
 have h44_ := zag h44_
 try simp -dsimp -implicitDefEqProofs only [go_sem, simprocAttr] at h44_
 obtain ⟨_, h45_, h⟩ := zaa h
 have h45_ := zag h45_
 try simp -dsimp -implicitDefEqProofs only [go_sem, simprocAttr] at h45_
 obtain ⟨_, h46_, h⟩ := zaa h
 have E := E.and (zwt a.bound (zag h46_))
 obtain ⟨_, h47_, h⟩ := zaa h
 have h47_ := zag h47_
 try simp -dsimp -implicitDefEqProofs only [go_sem, simprocAttr] at h47_
 obtain ⟨_, h48_, h⟩ := zaa h
 have h48_ := zag h48_
 try simp -dsimp -implicitDefEqProofs only [go_sem, simprocAttr] at h48_
 rotate_left
 all_goals
  obtain rfl := Option.some.inj h
  refine E.s fun n x => ?_
  first | (have := l38_; simp -dsimp -implicitDefEqProofs only [go_sem, func54, f54, *, simprocAttr]; refine zah (l38_.1 n (by omega) _ _ ?_ ?_ ?_ _ _ ?_); (iterate 3 (simp -dsimp -implicitDefEqProofs only [go_sem, *, simprocAttr])); simp only [zim]; intro e m i0; simp -dsimp -implicitDefEqProofs only [go_sem, func54, f54, *, simprocAttr]) | (have := l41_; simp -dsimp -implicitDefEqProofs only [go_sem, func54, f54, *, simprocAttr]; refine zah (l41_.1 n (by omega) _ _ ?_ ?_ ?_ _ _ ?_); (iterate 3 (simp -dsimp -implicitDefEqProofs only [go_sem, *, simprocAttr])); simp only [zim]; intro e m i0 i1; obtain ⟨_, _, _⟩ := i0; simp -dsimp -implicitDefEqProofs only [go_sem, func54, f54, *, simprocAttr]) | (simp -dsimp -implicitDefEqProofs only [go_sem, func54, f54, *, simprocAttr])
theorem zCG : ∀ s : Nat, s < big → zzy s := by
 intro s
 induction s with
 | zero => intro _; exact ⟨fun _ h => absurd h (by omega), fun _ h => absurd h (by omega)⟩
 | succ s ih =>
   intro hb
   have hg := ih (by omega)
   exact ⟨
    fun a h => zIf (sz := s) hg (zBX (kk := s + 1) (sz := s) (by omega) (by omega) (by omega)),
    fun a h => zzv (sz := s) hg (zvP (kk := s + 1) (sz := s) (by omega) (by omega) (by omega))⟩
theorem zIl (a : (Sl zal)) (h : (zdl a.l = true ∧ zbv a.l ∧ zak a.l < lim ∧ 4 * zak a.l + 1 < big - 1)) : Ev cfg 21 [(dSl zap a)] (.str (zcp a)) := (zCG (big - 1) (by unfold big; omega)).1 a h
def zgE (c2 : Sl zal) (c3 : Int) (K : Ex → St → Option Res) (R : Option Res) : Out (Str) (List Str × Int) → Prop
 | .ret r => ∀ (e : Env) (m : Mem), e 2 = (.str r) → K .ret ⟨e, m⟩ = R
 | .done q => ∀ (e : Env) (m : Mem), zuH (e 3) m [25, 36, 46] 1 zrk q.1 → K (.exit 0) ⟨e, m⟩ = R
noncomputable def zst : Code := zbq f19 [1, 1, 1, 0, 1, 0, 0]
abbrev zFF (sz : Nat) : Prop := (∀ (a : (Sl zal)), (zdl a.l = true ∧ zbv a.l ∧ zak a.l < lim ∧ 4 * zak a.l + 1 < sz) → Ev cfg 19 [(dSl zap a)] (.str (zcp a))) ∧ (∀ (a : (Sl zai)), ((∀ f ∈ a.l, zgj f = true ∧ zhv f) ∧ zaB a.l < lim ∧ 4 * zaB a.l + 2 < sz) → Ev cfg 47 [(dSl zar a)] (.str (ztr a))) ∧ (∀ (a : zan), (zgw a = true ∧ zhG a ∧ zbx a < lim ∧ 4 * zbx a < sz) → Ev cfg 88 [(.agg (zbj a))] (.str (zfs a)))
theorem zlg {c2 : Sl zal} {c3 : Int} {sz : Nat} (hg : zFF sz) {kk : Nat} : ∀ {k : Nat} {s1 : List Str} {s4 : Int} {out : Out (Str) (List Str × Int)}, zb4 c2 c3 sz kk k s1 s4 = some out → ∃ N, ∀ n, N ≤ n → ∀ k, N ≤ k → ∀ (e : Env) (m : Mem), zuH (e 3) m [25, 36, 46] 1 zrk s1 → e 9 = (dSl zap c2) → e 10 = (.int .i64 c3) → e 11 = (.int .i64 s4) → ∀ (K : Ex → St → Option Res) (R : Option Res), zgE c2 c3 K R out → zcj (zbH cfg (dfn cfg n) n zst) K k ⟨e, m⟩ = R := by
 have ⟨_, hF, _⟩ := hg
 intro k
 induction k with
 | zero => intro s1 s4 out h; cases h
 | succ k ih => ?_
 intro s1 s4 out h
 have ih := fun x0 x1 {out} => @ih x0 x1 out
 unfold zb4 at h
 have E := evT
 rcases zac h with ⟨h1_, h⟩ | ⟨h1_, h⟩
 obtain ⟨y5, h2_, h⟩ := zaa h
 obtain ⟨_, h3_⟩ := zaI h2_
 have h3_ := zax h3_ zap
 rcases zac h with ⟨h4_, h⟩ | ⟨h4_, h⟩
 obtain ⟨_, h5_, h⟩ := zaa h
 have e6_ : zid [(.int .i64 y5.coeff), (.int .i64 10)] = some (.str (zt1 y5.coeff 10)) := znv y5.coeff 10 (zag h5_)
 obtain ⟨_, h7_, h⟩ := zaa h
 have h7_ := zag h7_
 try simp -dsimp -implicitDefEqProofs only [go_sem, simprocAttr] at h7_
 rotate_left
 rcases zac h with ⟨h8_, h⟩ | ⟨h8_, h⟩
 obtain ⟨_, h9_, h⟩ := zaa h
 have E := E.and (hF y5.factors (zag h9_))
 obtain ⟨_, h10_, h⟩ := zaa h
 have h10_ := zag h10_
 try simp -dsimp -implicitDefEqProofs only [go_sem, simprocAttr] at h10_
 rotate_left
 obtain ⟨_, h11_, h⟩ := zaa h
 have e12_ : zid [(.int .i64 y5.coeff), (.int .i64 10)] = some (.str (zt1 y5.coeff 10)) := znv y5.coeff 10 (zag h11_)
 obtain ⟨_, h13_, h⟩ := zaa h
 have h13_ := zag h13_
 try simp -dsimp -implicitDefEqProofs only [go_sem, simprocAttr] at h13_
 obtain ⟨_, h14_, h⟩ := zaa h
 have E := E.and (hF y5.factors (zag h14_))
 obtain ⟨_, h15_, h⟩ := zaa h
 have h15_ := zag h15_
 try simp -dsimp -implicitDefEqProofs only [go_sem, simprocAttr] at h15_
 obtain ⟨_, h16_, h⟩ := zaa h
 have h16_ := zag h16_
 try simp -dsimp -implicitDefEqProofs only [go_sem, simprocAttr] at h16_
 rotate_left
 rotate_left
 all_goals
  first | (obtain rfl := Option.some.inj h; refine E.l fun n k x => ?_) | refine E.c (ih _ _ h) fun n k x I => ?_
  intro e m i0 i1 i2 i3 K R hK
  rcases zMO i0 with ⟨_, _⟩ | ⟨_, _, _, _⟩ | ⟨_, _, _, _⟩ | ⟨_, _, _, _⟩ <;> (rw [zau]; (conv => lhs; arg 4; whnf); (first | (simp -dsimp -implicitDefEqProofs only [go_sem, *, simprocAttr]; refine zah (I.1 _ _ ?_ ?_ ?_ ?_ _ _ hK); (iterate 4 (simp -dsimp -implicitDefEqProofs only [go_sem, *, simprocAttr]))) | (simp -dsimp -implicitDefEqProofs only [go_sem, *, simprocAttr]; simp only [zgE] at hK; refine hK _ _ ?_; simp -dsimp -implicitDefEqProofs only [go_sem, *, simprocAttr])))
theorem zvF {kk : Nat} {a : (Sl zal)} {sz : Nat} (hg : zFF sz) {r : Str} (h : ziu kk sz a = some r) : Ev cfg 19 [(dSl zap a)] (.str r) := by
 unfold ziu at h
 have E := evT
 rcases zac h with ⟨h17_, h⟩ | ⟨h17_, h⟩
 rotate_left
 rcases zaz h with ⟨r20_, o19_, h⟩ | ⟨q15, o19_, h⟩
 obtain ⟨_, l18_, E⟩ := E.lp (zlg hg o19_)
 rotate_left
 obtain ⟨_, l21_, E⟩ := E.lp (zlg hg o19_)
 obtain ⟨_, h22_, h⟩ := zaa h
 have e23_ := zxE (Sl.out q15.1) [32, 43, 32] (zag h22_)
 rotate_left
 all_goals
  obtain rfl := Option.some.inj h
  refine E.s fun n x => ?_
  (try simp -dsimp -implicitDefEqProofs only [go_sem, *, simprocAttr] at e23_)
  first | (have := l18_; simp -dsimp -implicitDefEqProofs only [go_sem, func19, f19, *, simprocAttr]; refine zah (l18_.1 n (by omega) _ _ ?_ ?_ ?_ ?_ _ _ ?_); (iterate 4 (simp -dsimp -implicitDefEqProofs only [go_sem, *, simprocAttr])); simp only [zgE]; intro e m i0; (try simp -dsimp -implicitDefEqProofs only [go_sem, *, simprocAttr] at e23_); simp -dsimp -implicitDefEqProofs only [go_sem, func19, f19, *, simprocAttr]) | (have := l21_; simp -dsimp -implicitDefEqProofs only [go_sem, func19, f19, *, simprocAttr]; refine zah (l21_.1 n (by omega) _ _ ?_ ?_ ?_ ?_ _ _ ?_); (iterate 4 (simp -dsimp -implicitDefEqProofs only [go_sem, *, simprocAttr])); simp only [zgE]; intro e m i0; rcases zMO i0 with ⟨_, _⟩ | ⟨_, _, _, _⟩ | ⟨_, _, _, _⟩ | ⟨_, _, _, _⟩ <;> ((try simp -dsimp -implicitDefEqProofs only [go_sem, *, simprocAttr] at e23_); (try simp -dsimp -implicitDefEqProofs only [go_sem, *, simprocAttr] at e23_); simp -dsimp -implicitDefEqProofs only [go_sem, func19, f19, *, simprocAttr])) | (simp -dsimp -implicitDefEqProofs only [go_sem, func19, f19, *, simprocAttr])
def zdf (c2 : Sl zai) (c3 : Int) (K : Ex → St → Option Res) (R : Option Res) : Out (Str) (List Str × Int) → Prop
 | .ret r => ∀ (e : Env) (m : Mem), e 2 = (.str r) → K .ret ⟨e, m⟩ = R
 | .done q => ∀ (e : Env) (m : Mem), zuH (e 3) m [28] 1 zrk q.1 → K (.exit 0) ⟨e, m⟩ = R
noncomputable def zlb : Code := zbq f47 [1, 1, 0, 1, 0, 0]
theorem zhl {c2 : Sl zai} {c3 : Int} {sz : Nat} (hg : zFF sz) {kk : Nat} : ∀ {k : Nat} {s1 : List Str} {s4 : Int} {out : Out (Str) (List Str × Int)}, zbk c2 c3 sz kk k s1 s4 = some out → ∃ N, ∀ n, N ≤ n → ∀ k, N ≤ k → ∀ (e : Env) (m : Mem), zuH (e 3) m [28] 1 zrk s1 → e 7 = (dSl zar c2) → e 8 = (.int .i64 c3) → e 9 = (.int .i64 s4) → ∀ (K : Ex → St → Option Res) (R : Option Res), zdf c2 c3 K R out → zcj (zbH cfg (dfn cfg n) n zlb) K k ⟨e, m⟩ = R := by
 have ⟨_, _, hX⟩ := hg
 intro k
 induction k with
 | zero => intro s1 s4 out h; cases h
 | succ k ih => ?_
 intro s1 s4 out h
 have ih := fun x0 x1 {out} => @ih x0 x1 out
 unfold zbk at h
 have E := evT
 rcases zac h with ⟨h1_, h⟩ | ⟨h1_, h⟩
 obtain ⟨y5, h2_, h⟩ := zaa h
 obtain ⟨_, h3_⟩ := zaI h2_
 have h3_ := zax h3_ zar
 obtain ⟨_, h4_, h⟩ := zaa h
 have E := E.and (hX y5.atom (zag h4_))
 rcases zac h with ⟨h5_, h⟩ | ⟨h5_, h⟩
 obtain ⟨_, h6_, h⟩ := zaa h
 have e7_ := zxF y5.exp (zag h6_)
 obtain ⟨_, h8_, h⟩ := zaa h
 have h8_ := zag h8_
 try simp -dsimp -implicitDefEqProofs only [go_sem, simprocAttr] at h8_
 obtain ⟨_, h9_, h⟩ := zaa h
 have h9_ := zag h9_
 try simp -dsimp -implicitDefEqProofs only [go_sem, simprocAttr] at h9_
 obtain ⟨_, h10_, h⟩ := zaa h
 have h10_ := zag h10_
 try simp -dsimp -implicitDefEqProofs only [go_sem, simprocAttr] at h10_
 rotate_left
 obtain ⟨_, h11_, h⟩ := zaa h
 have h11_ := zag h11_
 try simp -dsimp -implicitDefEqProofs only [go_sem, simprocAttr] at h11_
 rotate_left
 rotate_left
 all_goals
  first | (obtain rfl := Option.some.inj h; refine E.l fun n k x => ?_) | refine E.c (ih _ _ h) fun n k x I => ?_
  intro e m i0 i1 i2 i3 K R hK
  rcases zt2 i0 with ⟨_, _⟩ | ⟨_, _, _, _⟩ <;> (rw [zau]; (conv => lhs; arg 4; whnf); (first | (simp -dsimp -implicitDefEqProofs only [go_sem, *, simprocAttr]; refine zah (I.1 _ _ ?_ ?_ ?_ ?_ _ _ hK); (iterate 4 (simp -dsimp -implicitDefEqProofs only [go_sem, *, simprocAttr]))) | (simp -dsimp -implicitDefEqProofs only [go_sem, *, simprocAttr]; simp only [zdf] at hK; refine hK _ _ ?_; simp -dsimp -implicitDefEqProofs only [go_sem, *, simprocAttr])))
theorem zmI {kk : Nat} {a : (Sl zai)} {sz : Nat} (hg : zFF sz) {r : Str} (h : zdU kk sz a = some r) : Ev cfg 47 [(dSl zar a)] (.str r) := by
 unfold zdU at h
 have E := evT
 rcases zaz h with ⟨r14_, o13_, h⟩ | ⟨q12, o13_, h⟩
 obtain ⟨_, l12_, E⟩ := E.lp (zhl hg o13_)
 rotate_left
 obtain ⟨_, l15_, E⟩ := E.lp (zhl hg o13_)
 obtain ⟨_, h16_, h⟩ := zaa h
 have e17_ := zxE (Sl.out q12.1) [42] (zag h16_)
 rotate_left
 all_goals
  obtain rfl := Option.some.inj h
  refine E.s fun n x => ?_
  (try simp -dsimp -implicitDefEqProofs only [go_sem, *, simprocAttr] at e17_)
  first | (have := l12_; simp -dsimp -implicitDefEqProofs only [go_sem, func47, f47, *, simprocAttr]; refine zah (l12_.1 n (by omega) _ _ ?_ ?_ ?_ ?_ _ _ ?_); (iterate 4 (simp -dsimp -implicitDefEqProofs only [go_sem, *, simprocAttr])); simp only [zdf]; intro e m i0; (try simp -dsimp -implicitDefEqProofs only [go_sem, *, simprocAttr] at e17_); simp -dsimp -implicitDefEqProofs only [go_sem, func47, f47, *, simprocAttr]) | (have := l15_; simp -dsimp -implicitDefEqProofs only [go_sem, func47, f47, *, simprocAttr]; refine zah (l15_.1 n (by omega) _ _ ?_ ?_ ?_ ?_ _ _ ?_); (iterate 4 (simp -dsimp -implicitDefEqProofs only [go_sem, *, simprocAttr])); simp only [zdf]; intro e m i0; rcases zt2 i0 with ⟨_, _⟩ | ⟨_, _, _, _⟩ <;> ((try simp -dsimp -implicitDefEqProofs only [go_sem, *, simprocAttr] at e17_); (try simp -dsimp -implicitDefEqProofs only [go_sem, *, simprocAttr] at e17_); simp -dsimp -implicitDefEqProofs only [go_sem, func47, f47, *, simprocAttr]))
def zdN (c19 : Sl zad) (c20 : Int) (c22 : zan) (K : Ex → St → Option Res) (R : Option Res) : Out (Str) (List Str × Int) → Prop
 | .ret r => ∀ (e : Env) (m : Mem), e 2 = (.str r) → K .ret ⟨e, m⟩ = R
 | .done q => ∀ (e : Env) (m : Mem), zci (e 1) m 1 10 (zbj c22) → zuH (e 3) m [64] 1 zrk q.1 → K (.exit 1) ⟨e, m⟩ = R
noncomputable def zmR : Code := zbq f88 [1, 1, 1, 0, 1, 0, 0]
theorem zix {c19 : Sl zad} {c20 : Int} {c22 : zan} {sz : Nat} (hg : zFF sz) {kk : Nat} : ∀ {k : Nat} {s18 : List Str} {s21 : Int} {out : Out (Str) (List Str × Int)}, zbQ c19 c20 c22 sz kk k s18 s21 = some out → ∃ N, ∀ n, N ≤ n → ∀ k, N ≤ k → ∀ (e : Env) (m : Mem), zci (e 1) m 1 10 (zbj c22) → zuH (e 3) m [64] 1 zrk s18 → e 48 = (dSl zao c19) → e 49 = (.int .i64 c20) → e 50 = (.int .i64 s21) → ∀ (K : Ex → St → Option Res) (R : Option Res), zdN c19 c20 c22 K R out → zcj (zbH cfg (dfn cfg n) n zmR) K k ⟨e, m⟩ = R := by
 have ⟨hT, _, _⟩ := hg
 intro k
 induction k with
 | zero => intro s18 s21 out h; cases h
 | succ k ih => ?_
 intro s18 s21 out h
 have ih := fun x0 x1 {out} => @ih x0 x1 out
 unfold zbQ at h
 have E := evT
 rcases zac h with ⟨h1_, h⟩ | ⟨h1_, h⟩
 obtain ⟨y23, h2_, h⟩ := zaa h
 obtain ⟨_, h3_⟩ := zaI h2_
 have h3_ := zax h3_ zao
 obtain ⟨_, h4_, h⟩ := zaa h
 have E := E.and (zsK y23.value (zag h4_))
 obtain ⟨_, h5_, h⟩ := zaa h
 have h5_ := zag h5_
 try simp -dsimp -implicitDefEqProofs only [go_sem, simprocAttr] at h5_
 obtain ⟨_, h6_, h⟩ := zaa h
 have E := E.and (hT y23.ann (zag h6_))
 obtain ⟨_, h7_, h⟩ := zaa h
 have h7_ := zag h7_
 try simp -dsimp -implicitDefEqProofs only [go_sem, simprocAttr] at h7_
 obtain ⟨_, h8_, h⟩ := zaa h
 have h8_ := zag h8_
 try simp -dsimp -implicitDefEqProofs only [go_sem, simprocAttr] at h8_
 rotate_left
 rotate_left
 all_goals
  first | (obtain rfl := Option.some.inj h; refine E.l fun n k x => ?_) | refine E.c (ih _ _ h) fun n k x I => ?_
  intro e m i0 i1 i2 i3 i4 K R hK
  obtain ⟨_, _, _⟩ := i0
  rcases zt2 i1 with ⟨_, _⟩ | ⟨_, _, _, _⟩ <;> (rw [zau]; (conv => lhs; arg 4; whnf); (first | (simp -dsimp -implicitDefEqProofs only [go_sem, *, simprocAttr]; refine zah (I.1 _ _ ?_ ?_ ?_ ?_ ?_ _ _ hK); (iterate 5 (simp -dsimp -implicitDefEqProofs only [go_sem, *, simprocAttr]))) | (simp -dsimp -implicitDefEqProofs only [go_sem, *, simprocAttr]; simp only [zdN] at hK; refine hK _ _ ?_ ?_; (iterate 2 (simp -dsimp -implicitDefEqProofs only [go_sem, *, simprocAttr])))))
theorem zpz {kk : Nat} {a : zan} {sz : Nat} (hg : zFF sz) {r : Str} (h : zfn kk sz a = some r) : Ev cfg 88 [(.agg (zbj a))] (.str r) := by
 have ⟨hT, _, _⟩ := hg
 unfold zfn at h
 have E := evT
 rcases zac h with ⟨h9_, h⟩ | ⟨h9_, h⟩
 obtain ⟨_, h10_, h⟩ := zaa h
 have E := E.and (zyM a.row (zag h10_))
 rotate_left
 rcases zac h with ⟨h11_, h⟩ | ⟨h11_, h⟩
 obtain ⟨y2, h12_, h⟩ := zaa h
 have h12_ := zax h12_ (cSl zap)
 obtain ⟨_, h13_, h⟩ := zaa h
 have E := E.and (hT y2 (zag h13_))
 obtain ⟨_, h14_, h⟩ := zaa h
 have h14_ := zag h14_
 try simp -dsimp -implicitDefEqProofs only [go_sem, simprocAttr] at h14_
 obtain ⟨_, h15_, h⟩ := zaa h
 have h15_ := zag h15_
 try simp -dsimp -implicitDefEqProofs only [go_sem, simprocAttr] at h15_
 obtain ⟨y6, h16_, h⟩ := zaa h
 have h16_ := zax h16_ (cSl zap)
 obtain ⟨_, h17_, h⟩ := zaa h
 have E := E.and (hT y6 (zag h17_))
 obtain ⟨_, h18_, h⟩ := zaa h
 have h18_ := zag h18_
 try simp -dsimp -implicitDefEqProofs only [go_sem, simprocAttr] at h18_
 obtain ⟨_, h19_, h⟩ := zaa h
 have h19_ := zag h19_
 try simp -dsimp -implicitDefEqProofs only [go_sem, simprocAttr] at h19_
 rotate_left
 rcases zac h with ⟨h20_, h⟩ | ⟨h20_, h⟩
 obtain ⟨y10, h21_, h⟩ := zaa h
 have h21_ := zax h21_ (cSl zap)
 obtain ⟨_, h22_, h⟩ := zaa h
 have E := E.and (hT y10 (zag h22_))
 obtain ⟨_, h23_, h⟩ := zaa h
 have h23_ := zag h23_
 try simp -dsimp -implicitDefEqProofs only [go_sem, simprocAttr] at h23_
 obtain ⟨_, h24_, h⟩ := zaa h
 have h24_ := zag h24_
 try simp -dsimp -implicitDefEqProofs only [go_sem, simprocAttr] at h24_
 rotate_left
 rcases zac h with ⟨h25_, h⟩ | ⟨h25_, h⟩
 obtain ⟨y14, h26_, h⟩ := zaa h
 have h26_ := zax h26_ (cSl zap)
 obtain ⟨_, h27_, h⟩ := zaa h
 have E := E.and (hT y14 (zag h27_))
 obtain ⟨_, h28_, h⟩ := zaa h
 have h28_ := zag h28_
 try simp -dsimp -implicitDefEqProofs only [go_sem, simprocAttr] at h28_
 obtain ⟨_, h29_, h⟩ := zaa h
 have h29_ := zag h29_
 try simp -dsimp -implicitDefEqProofs only [go_sem, simprocAttr] at h29_
 rotate_left
 rcases zaz h with ⟨r32_, o31_, h⟩ | ⟨q29, o31_, h⟩
 obtain ⟨_, l30_, E⟩ := E.lp (zix hg o31_)
 rotate_left
 obtain ⟨_, l33_, E⟩ := E.lp (zix hg o31_)
 have E := E.and (zj9 )
 obtain ⟨y30, h34_, h⟩ := zaa h
 obtain ⟨_, h35_⟩ := zaI h34_
 have h35_ := zax h35_ zrk
 obtain ⟨_, h36_, h⟩ := zaa h
 have h36_ := zag h36_
 try simp -dsimp -implicitDefEqProofs only [go_sem, simprocAttr] at h36_
 obtain ⟨_, h37_, h⟩ := zaa h
 have h37_ := zag h37_
 try simp -dsimp -implicitDefEqProofs only [go_sem, simprocAttr] at h37_
 obtain ⟨_, h38_, h⟩ := zaa h
 have e39_ := zxE (Sl.out q29.1) [59, 32] (zag h38_)
 obtain ⟨_, h40_, h⟩ := zaa h
 have h40_ := zag h40_
 try simp -dsimp -implicitDefEqProofs only [go_sem, simprocAttr] at h40_
 obtain ⟨_, h41_, h⟩ := zaa h
 have h41_ := zag h41_
 try simp -dsimp -implicitDefEqProofs only [go_sem, simprocAttr] at h41_
 have E := E.and (zj8 )
 obtain ⟨y36, h42_, h⟩ := zaa h
 obtain ⟨_, h43_⟩ := zaI h42_
 have h43_ := zax h43_ zrk
 obtain ⟨_, h44_, h⟩ := zaa h
 have h44_ := zag h44_
 try simp -dsimp -implicitDefEqProofs only [go_sem, simprocAttr] at h44_
 obtain ⟨_, h45_, h⟩ := zaa h
 have h45_ := zag h45_
 try simp -dsimp -implicitDefEqProofs only [go_sem, simprocAttr] at h45_
 obtain ⟨_, h46_, h⟩ := zaa h
 have E := E.and (zsK a.bound (zag h46_))
 obtain ⟨_, h47_, h⟩ := zaa h
 have h47_ := zag h47_
 try simp -dsimp -implicitDefEqProofs only [go_sem, simprocAttr] at h47_
 obtain ⟨_, h48_, h⟩ := zaa h
 have h48_ := zag h48_
 try simp -dsimp -implicitDefEqProofs only [go_sem, simprocAttr] at h48_
 rotate_left
 all_goals
  obtain rfl := Option.some.inj h
  refine E.s fun n x => ?_
  (try simp -dsimp -implicitDefEqProofs only [go_sem, *, simprocAttr] at e39_)
  (try simp -dsimp -implicitDefEqProofs only [go_sem, *, simprocAttr] at h40_)
  (try simp -dsimp -implicitDefEqProofs only [go_sem, *, simprocAttr] at h41_)
  (try simp -dsimp -implicitDefEqProofs only [go_sem, *, simprocAttr] at h44_)
  (try simp -dsimp -implicitDefEqProofs only [go_sem, *, simprocAttr] at h45_)
  (try simp -dsimp -implicitDefEqProofs only [go_sem, *, simprocAttr] at h47_)
  (try simp -dsimp -implicitDefEqProofs only [go_sem, *, simprocAttr] at h48_)
  first | (have := l30_; simp -dsimp -implicitDefEqProofs only [go_sem, func88, f88, *, simprocAttr]; refine zah (l30_.1 n (by omega) _ _ ?_ ?_ ?_ ?_ ?_ _ _ ?_); (iterate 5 (simp -dsimp -implicitDefEqProofs only [go_sem, *, simprocAttr])); simp only [zdN]; intro e m i0; (try simp -dsimp -implicitDefEqProofs only [go_sem, *, simprocAttr] at e39_); (try simp -dsimp -implicitDefEqProofs only [go_sem, *, simprocAttr] at h40_); (try simp -dsimp -implicitDefEqProofs only [go_sem, *, simprocAttr] at h41_); (try simp -dsimp -implicitDefEqProofs only [go_sem, *, simprocAttr] at h44_); (try simp -dsimp -implicitDefEqProofs only [go_sem, *, simprocAttr] at h45_); (try simp -dsimp -implicitDefEqProofs only [go_sem, *, simprocAttr] at h47_); (try simp -dsimp -implicitDefEqProofs only [go_sem, *, simprocAttr] at h48_); simp -dsimp -implicitDefEqProofs only [go_sem, func88, f88, *, simprocAttr]) | (have := l33_; simp -dsimp -implicitDefEqProofs only [go_sem, func88, f88, *, simprocAttr]; refine zah (l33_.1 n (by omega) _ _ ?_ ?_ ?_ ?_ ?_ _ _ ?_); (iterate 5 (simp -dsimp -implicitDefEqProofs only [go_sem, *, simprocAttr])); simp only [zdN]; intro e m i0 i1; obtain ⟨_, _, _⟩ := i0; rcases zt2 i1 with ⟨_, _⟩ | ⟨_, _, _, _⟩ <;> ((try simp -dsimp -implicitDefEqProofs only [go_sem, *, simprocAttr] at e39_); (try simp -dsimp -implicitDefEqProofs only [go_sem, *, simprocAttr] at h40_); (try simp -dsimp -implicitDefEqProofs only [go_sem, *, simprocAttr] at h41_); (try simp -dsimp -implicitDefEqProofs only [go_sem, *, simprocAttr] at h44_); (try simp -dsimp -implicitDefEqProofs only [go_sem, *, simprocAttr] at h45_); (try simp -dsimp -implicitDefEqProofs only [go_sem, *, simprocAttr] at h47_); (try simp -dsimp -implicitDefEqProofs only [go_sem, *, simprocAttr] at h48_); (try simp -dsimp -implicitDefEqProofs only [go_sem, *, simprocAttr] at e39_); (try simp -dsimp -implicitDefEqProofs only [go_sem, *, simprocAttr] at h40_); (try simp -dsimp -implicitDefEqProofs only [go_sem, *, simprocAttr] at h41_); (try simp -dsimp -implicitDefEqProofs only [go_sem, *, simprocAttr] at h44_); (try simp -dsimp -implicitDefEqProofs only [go_sem, *, simprocAttr] at h45_); (try simp -dsimp -implicitDefEqProofs only [go_sem, *, simprocAttr] at h47_); (try simp -dsimp -implicitDefEqProofs only [go_sem, *, simprocAttr] at h48_); simp -dsimp -implicitDefEqProofs only [go_sem, func88, f88, *, simprocAttr])) | (simp -dsimp -implicitDefEqProofs only [go_sem, func88, f88, *, simprocAttr])
theorem zDQ : ∀ s : Nat, s < big → zFF s := by
 intro s
 induction s with
 | zero => intro _; exact ⟨fun _ h => absurd h (by omega), fun _ h => absurd h (by omega), fun _ h => absurd h (by omega)⟩
 | succ s ih =>
   intro hb
   have hg := ih (by omega)
   exact ⟨
    fun a h => zvF (sz := s) hg (zsk (kk := s + 1) (sz := s) (by omega) (by omega) (by omega)),
    fun a h => zmI (sz := s) hg (zla (kk := s + 1) (sz := s) (by omega) (by omega) (by omega)),
    fun a h => zpz (sz := s) hg (zmN (kk := s + 1) (sz := s) (by omega) (by omega) (by omega))⟩
theorem zoy (a : (Sl zal)) (h : (zdl a.l = true ∧ zbv a.l ∧ zak a.l < lim ∧ 4 * zak a.l + 1 < big - 1)) : Ev cfg 19 [(dSl zap a)] (.str (zcp a)) := (zDQ (big - 1) (by unfold big; omega)).1 a h
end Go.Proofs.Tryz
set_option maxRecDepth 100000
set_option maxHeartbeats 4000000
set_option linter.unusedSimpArgs false
set_option linter.unusedVariables false
namespace Go.Proofs.Tryz
open Go.Ev
def zjL (c26 : Sl zal) (c27 : Int) (c28 : Int) (c30 : Int) (c31 : Int) (c33 : zan) (K : Ex → St → Option Res) (R : Option Res) : Out (Int) (Int × Int) → Prop
 | .ret r => ∀ (e : Env) (m : Mem), e 6 = (.int .i64 r) → K .ret ⟨e, m⟩ = R
 | .done q => ∀ (e : Env) (m : Mem), e 0 = (dSl zap c26) → e 1 = (.int .i64 c27) → e 2 = (.int .i64 c28) → e 7 = (.int .i64 q.1) → e 8 = (.int .i64 c30) → e 9 = (.int .i64 c31) → K (.exit 6) ⟨e, m⟩ = R
noncomputable def zyN : Code := zbq f18 [1, 1, 1, 0, 1, 0, 0, 1, 0, 0, 1, 1, 0, 0, 1, 0, 0, 1, 1, 1, 1, 0, 0]
abbrev zIk (sz : Nat) : Prop := (∀ (a : (Sl zal)) (b : Int) (c : Int), (zak a.l < sz ∧ zak a.l < lim ∧ 0 ≤ b ∧ b ≤ 4294967296 ∧ 0 ≤ c ∧ c ≤ 4294967296) → Ev cfg 18 [(dSl zap a), (.int .i64 b), (.int .i64 c)] (.int .i64 (zAu a b c)))
theorem zro {c26 : Sl zal} {c27 : Int} {c28 : Int} {c30 : Int} {c31 : Int} {c33 : zan} {sz : Nat} (hg : zIk sz) {kk : Nat} : ∀ {k : Nat} {s29 : Int} {s32 : Int} {out : Out (Int) (Int × Int)}, zfu c26 c27 c28 c30 c31 c33 sz kk k s29 s32 = some out → ∃ N, ∀ n, N ≤ n → ∀ k, N ≤ k → ∀ (e : Env) (m : Mem), e 0 = (dSl zap c26) → e 1 = (.int .i64 c27) → e 2 = (.int .i64 c28) → e 7 = (.int .i64 s29) → e 8 = (.int .i64 c30) → e 9 = (.int .i64 c31) → zci (e 10) m 10 10 (zbj c33) → e 12 = (.int .i64 s32) → ∀ (K : Ex → St → Option Res) (R : Option Res), zjL c26 c27 c28 c30 c31 c33 K R out → zcj (zbH cfg (dfn cfg n) n zyN) K k ⟨e, m⟩ = R := by
 have hW := hg
 intro k
 induction k with
 | zero => intro s29 s32 out h; cases h
 | succ k ih => ?_
 intro s29 s32 out h
 have ih := fun x0 x1 {out} => @ih x0 x1 out
 unfold zfu at h
 have E := evT
 rcases zac h with ⟨h1_, h⟩ | ⟨h1_, h⟩
 obtain ⟨b2_, b3_⟩ := zb2 h1_
 obtain ⟨y34, h4_, h⟩ := zaa h
 obtain ⟨_, h5_⟩ := zaI h4_
 have h5_ := zax h5_ zao
 obtain ⟨_, h6_, h⟩ := zaa h
 have E := E.and (hW y34.ann (IntKind.wrap .i64 (c27 - s29)) (IntKind.wrap .i64 (c28 - 1)) (zag h6_))
 rotate_left
 rcases zbC h1_ with b7_ | ⟨b7_, b8_⟩
 rotate_left
 rotate_left
 all_goals
  first | (obtain rfl := Option.some.inj h; refine E.l fun n k x => ?_) | refine E.c (ih _ _ h) fun n k x I => ?_
  intro e m i0 i1 i2 i3 i4 i5 i6 i7 K R hK
  obtain ⟨_, _, _⟩ := i6
  rw [zau]
  (conv => lhs; arg 4; whnf)
  first | (simp -dsimp -implicitDefEqProofs only [go_sem, *, simprocAttr]; refine zah (I.1 _ _ ?_ ?_ ?_ ?_ ?_ ?_ ?_ ?_ _ _ hK); (iterate 8 (simp -dsimp -implicitDefEqProofs only [go_sem, *, simprocAttr]))) | (simp -dsimp -implicitDefEqProofs only [go_sem, *, simprocAttr]; simp only [zjL] at hK; refine hK _ _ ?_ ?_ ?_ ?_ ?_ ?_; (iterate 6 (simp -dsimp -implicitDefEqProofs only [go_sem, *, simprocAttr])))
def zjM (c15 : Sl zal) (c16 : Int) (c17 : Int) (c19 : Int) (c20 : Int) (c22 : zan) (K : Ex → St → Option Res) (R : Option Res) : Out (Int) (Int × Int) → Prop
 | .ret r => ∀ (e : Env) (m : Mem), e 6 = (.int .i64 r) → K .ret ⟨e, m⟩ = R
 | .done q => ∀ (e : Env) (m : Mem), e 0 = (dSl zap c15) → e 1 = (.int .i64 c16) → e 2 = (.int .i64 c17) → e 7 = (.int .i64 q.1) → e 8 = (.int .i64 c19) → e 9 = (.int .i64 c20) → zci (e 10) m 10 10 (zbj c22) → K (.exit 4) ⟨e, m⟩ = R
noncomputable def zyO : Code := zbq f18 [1, 1, 1, 0, 1, 0, 0, 1, 0, 0, 1, 1, 0, 0, 1, 0, 0, 1, 1, 0, 1, 0, 0]
theorem zrp {c15 : Sl zal} {c16 : Int} {c17 : Int} {c19 : Int} {c20 : Int} {c22 : zan} {sz : Nat} (hg : zIk sz) {kk : Nat} : ∀ {k : Nat} {s18 : Int} {s21 : Int} {out : Out (Int) (Int × Int)}, zfv c15 c16 c17 c19 c20 c22 sz kk k s18 s21 = some out → ∃ N, ∀ n, N ≤ n → ∀ k, N ≤ k → ∀ (e : Env) (m : Mem), e 0 = (dSl zap c15) → e 1 = (.int .i64 c16) → e 2 = (.int .i64 c17) → e 7 = (.int .i64 s18) → e 8 = (.int .i64 c19) → e 9 = (.int .i64 c20) → zci (e 10) m 10 10 (zbj c22) → e 11 = (.int .i64 s21) → ∀ (K : Ex → St → Option Res) (R : Option Res), zjM c15 c16 c17 c19 c20 c22 K R out → zcj (zbH cfg (dfn cfg n) n zyO) K k ⟨e, m⟩ = R := by
 have hW := hg
 intro k
 induction k with
 | zero => intro s18 s21 out h; cases h
 | succ k ih => ?_
 intro s18 s21 out h
 have ih := fun x0 x1 {out} => @ih x0 x1 out
 unfold zfv at h
 have E := evT
 rcases zac h with ⟨h9_, h⟩ | ⟨h9_, h⟩
 obtain ⟨b10_, b11_⟩ := zb2 h9_
 obtain ⟨y23, h12_, h⟩ := zaa h
 obtain ⟨_, h13_⟩ := zaI h12_
 have h13_ := zax h13_ (cSl zap)
 obtain ⟨_, h14_, h⟩ := zaa h
 have E := E.and (hW y23 (IntKind.wrap .i64 (c16 - s18)) (IntKind.wrap .i64 (c17 - 1)) (zag h14_))
 rotate_left
 rcases zbC h9_ with b15_ | ⟨b15_, b16_⟩
 rotate_left
 rotate_left
 all_goals
  first | (obtain rfl := Option.some.inj h; refine E.l fun n k x => ?_) | refine E.c (ih _ _ h) fun n k x I => ?_
  intro e m i0 i1 i2 i3 i4 i5 i6 i7 K R hK
  obtain ⟨_, _, _⟩ := i6
  rw [zau]
  (conv => lhs; arg 4; whnf)
  first | (simp -dsimp -implicitDefEqProofs only [go_sem, *, simprocAttr]; refine zah (I.1 _ _ ?_ ?_ ?_ ?_ ?_ ?_ ?_ ?_ _ _ hK); (iterate 8 (simp -dsimp -implicitDefEqProofs only [go_sem, *, simprocAttr]))) | (simp -dsimp -implicitDefEqProofs only [go_sem, *, simprocAttr]; simp only [zjM] at hK; refine hK _ _ ?_ ?_ ?_ ?_ ?_ ?_ ?_; (iterate 7 (simp -dsimp -implicitDefEqProofs only [go_sem, *, simprocAttr])))
def zgP (c7 : Sl zal) (c8 : Int) (c9 : Int) (c11 : Int) (K : Ex → St → Option Res) (R : Option Res) : Out (Int) (Int × Int) → Prop
 | .ret r => ∀ (e : Env) (m : Mem), e 6 = (.int .i64 r) → K .ret ⟨e, m⟩ = R
 | .done q => ∀ (e : Env) (m : Mem), e 0 = (dSl zap c7) → e 1 = (.int .i64 c8) → e 2 = (.int .i64 c9) → e 7 = (.int .i64 q.1) → e 8 = (.int .i64 c11) → K (.exit 2) ⟨e, m⟩ = R
noncomputable def zyP : Code := zbq f18 [1, 1, 1, 0, 1, 0, 0, 1, 0, 0, 1, 1, 0, 0]
theorem zrq {c7 : Sl zal} {c8 : Int} {c9 : Int} {c11 : Int} {sz : Nat} (hg : zIk sz) {kk : Nat} : ∀ {k : Nat} {s10 : Int} {s12 : Int} {out : Out (Int) (Int × Int)}, zfw c7 c8 c9 c11 sz kk k s10 s12 = some out → ∃ N, ∀ n, N ≤ n → ∀ k, N ≤ k → ∀ (e : Env) (m : Mem), e 0 = (dSl zap c7) → e 1 = (.int .i64 c8) → e 2 = (.int .i64 c9) → e 7 = (.int .i64 s10) → e 8 = (.int .i64 c11) → e 9 = (.int .i64 s12) → ∀ (K : Ex → St → Option Res) (R : Option Res), zgP c7 c8 c9 c11 K R out → zcj (zbH cfg (dfn cfg n) n zyP) K k ⟨e, m⟩ = R := by
 intro k
 induction k with
 | zero => intro s10 s12 out h; cases h
 | succ k ih => ?_
 intro s10 s12 out h
 have ih := fun x0 x1 {out} => @ih x0 x1 out
 unfold zfw at h
 have E := evT
 obtain ⟨y13, h17_, h⟩ := zaa h
 obtain ⟨_, h18_⟩ := zaI h17_
 have h18_ := zax h18_ zap
 rcases zac h with ⟨h19_, h⟩ | ⟨h19_, h⟩
 obtain ⟨b20_, b21_⟩ := zb2 h19_
 obtain ⟨y14, h22_, h⟩ := zaa h
 obtain ⟨_, h23_⟩ := zaI h22_
 have h23_ := zax h23_ zar
 rcases zaz h with ⟨r26_, o25_, h⟩ | ⟨q25, o25_, h⟩
 obtain ⟨_, l24_, E⟩ := E.lp (zrp hg o25_)
 rotate_left
 obtain ⟨_, l27_, E⟩ := E.lp (zrp hg o25_)
 rcases zaz h with ⟨r30_, o29_, h⟩ | ⟨q36, o29_, h⟩
 obtain ⟨_, l28_, E⟩ := E.lp (zro hg o29_)
 rotate_left
 obtain ⟨_, l31_, E⟩ := E.lp (zro hg o29_)
 rotate_left
 rcases zbC h19_ with b32_ | ⟨b32_, b33_⟩
 rotate_left
 rotate_left
 all_goals
  first | (obtain rfl := Option.some.inj h; refine E.l fun n k x => ?_) | refine E.c (ih _ _ h) fun n k x I => ?_
  intro e m i0 i1 i2 i3 i4 i5 K R hK
  rw [zau]
  (conv => lhs; arg 4; whnf)
  first | (have := l24_; simp -dsimp -implicitDefEqProofs only [go_sem, *, simprocAttr]; refine zah (l24_.1 n (by omega) _ _ ?_ ?_ ?_ ?_ ?_ ?_ ?_ ?_ _ _ ?_); (iterate 8 (simp -dsimp -implicitDefEqProofs only [go_sem, *, simprocAttr])); simp only [zjM]; intro e m i0; (try simp -dsimp -implicitDefEqProofs only [go_sem, *, simprocAttr]); simp only [zgP] at hK; refine hK _ _ ?_; simp -dsimp -implicitDefEqProofs only [go_sem, *, simprocAttr]) | (have := l27_; simp -dsimp -implicitDefEqProofs only [go_sem, *, simprocAttr]; refine zah (l27_.1 n (by omega) _ _ ?_ ?_ ?_ ?_ ?_ ?_ ?_ ?_ _ _ ?_); (iterate 8 (simp -dsimp -implicitDefEqProofs only [go_sem, *, simprocAttr])); simp only [zjM]; intro e m i0 i1 i2 i3 i4 i5 i6; obtain ⟨_, _, _⟩ := i6; (first | (have := l28_; (try simp -dsimp -implicitDefEqProofs only [go_sem, *, simprocAttr]); refine zah (l28_.1 n (by omega) _ _ ?_ ?_ ?_ ?_ ?_ ?_ ?_ ?_ _ _ ?_); (iterate 8 (simp -dsimp -implicitDefEqProofs only [go_sem, *, simprocAttr])); simp only [zjL]; intro e m i0; (try simp -dsimp -implicitDefEqProofs only [go_sem, *, simprocAttr]); simp only [zgP] at hK; refine hK _ _ ?_; simp -dsimp -implicitDefEqProofs only [go_sem, *, simprocAttr]) | (have := l31_; (try simp -dsimp -implicitDefEqProofs only [go_sem, *, simprocAttr]); refine zah (l31_.1 n (by omega) _ _ ?_ ?_ ?_ ?_ ?_ ?_ ?_ ?_ _ _ ?_); (iterate 8 (simp -dsimp -implicitDefEqProofs only [go_sem, *, simprocAttr])); simp only [zjL]; intro e m i0 i1 i2 i3 i4 i5; (try simp -dsimp -implicitDefEqProofs only [go_sem, *, simprocAttr]); refine zah (I.1 _ _ ?_ ?_ ?_ ?_ ?_ ?_ _ _ hK); (iterate 6 (simp -dsimp -implicitDefEqProofs only [go_sem, *, simprocAttr]))))) | ((try simp -dsimp -implicitDefEqProofs only [go_sem, *, simprocAttr]); simp only [zgP] at hK; refine hK _ _ ?_ ?_ ?_ ?_ ?_; (iterate 5 (simp -dsimp -implicitDefEqProofs only [go_sem, *, simprocAttr])))
def zh1 (c1 : Sl zal) (c2 : Int) (c3 : Int) (K : Ex → St → Option Res) (R : Option Res) : Out (Int) (Int × Int) → Prop
 | .ret r => ∀ (e : Env) (m : Mem), e 6 = (.int .i64 r) → K .ret ⟨e, m⟩ = R
 | .done q => ∀ (e : Env) (m : Mem), e 7 = (.int .i64 q.1) → K (.exit 0) ⟨e, m⟩ = R
noncomputable def zyQ : Code := zbq f18 [1, 1, 1, 0, 1, 0, 0]
theorem zrr {c1 : Sl zal} {c2 : Int} {c3 : Int} {sz : Nat} (hg : zIk sz) {kk : Nat} : ∀ {k : Nat} {s4 : Int} {s5 : Int} {out : Out (Int) (Int × Int)}, zgp c1 c2 c3 sz kk k s4 s5 = some out → ∃ N, ∀ n, N ≤ n → ∀ k, N ≤ k → ∀ (e : Env) (m : Mem), e 0 = (dSl zap c1) → e 1 = (.int .i64 c2) → e 2 = (.int .i64 c3) → e 7 = (.int .i64 s4) → e 8 = (.int .i64 s5) → ∀ (K : Ex → St → Option Res) (R : Option Res), zh1 c1 c2 c3 K R out → zcj (zbH cfg (dfn cfg n) n zyQ) K k ⟨e, m⟩ = R := by
 intro k
 induction k with
 | zero => intro s4 s5 out h; cases h
 | succ k ih => ?_
 intro s4 s5 out h
 have ih := fun x0 x1 {out} => @ih x0 x1 out
 unfold zgp at h
 have E := evT
 rcases zac h with ⟨h34_, h⟩ | ⟨h34_, h⟩
 obtain ⟨b35_, b36_⟩ := zb2 h34_
 obtain ⟨y6, h37_, h⟩ := zaa h
 obtain ⟨_, h38_⟩ := zaI h37_
 have h38_ := zax h38_ zap
 rcases zaz h with ⟨r41_, o40_, h⟩ | ⟨q37, o40_, h⟩
 obtain ⟨_, l39_, E⟩ := E.lp (zrq hg o40_)
 rotate_left
 obtain ⟨_, l42_, E⟩ := E.lp (zrq hg o40_)
 rotate_left
 rcases zbC h34_ with b43_ | ⟨b43_, b44_⟩
 rotate_left
 rotate_left
 all_goals
  first | (obtain rfl := Option.some.inj h; refine E.l fun n k x => ?_) | refine E.c (ih _ _ h) fun n k x I => ?_
  intro e m i0 i1 i2 i3 i4 K R hK
  rw [zau]
  (conv => lhs; arg 4; whnf)
  first | (have := l39_; simp -dsimp -implicitDefEqProofs only [go_sem, *, simprocAttr]; refine zah (l39_.1 n (by omega) _ _ ?_ ?_ ?_ ?_ ?_ ?_ _ _ ?_); (iterate 6 (simp -dsimp -implicitDefEqProofs only [go_sem, *, simprocAttr])); simp only [zgP]; intro e m i0; (try simp -dsimp -implicitDefEqProofs only [go_sem, *, simprocAttr]); simp only [zh1] at hK; refine hK _ _ ?_; simp -dsimp -implicitDefEqProofs only [go_sem, *, simprocAttr]) | (have := l42_; simp -dsimp -implicitDefEqProofs only [go_sem, *, simprocAttr]; refine zah (l42_.1 n (by omega) _ _ ?_ ?_ ?_ ?_ ?_ ?_ _ _ ?_); (iterate 6 (simp -dsimp -implicitDefEqProofs only [go_sem, *, simprocAttr])); simp only [zgP]; intro e m i0 i1 i2 i3 i4; (try simp -dsimp -implicitDefEqProofs only [go_sem, *, simprocAttr]); refine zah (I.1 _ _ ?_ ?_ ?_ ?_ ?_ _ _ hK); (iterate 5 (simp -dsimp -implicitDefEqProofs only [go_sem, *, simprocAttr]))) | ((try simp -dsimp -implicitDefEqProofs only [go_sem, *, simprocAttr]); simp only [zh1] at hK; refine hK _ _ ?_; simp -dsimp -implicitDefEqProofs only [go_sem, *, simprocAttr])
theorem zDT {kk : Nat} {a : (Sl zal)} {b : Int} {c : Int} {sz : Nat} (hg : zIk sz) {r : Int} (h : zng kk sz a b c = some r) : Ev cfg 18 [(dSl zap a), (.int .i64 b), (.int .i64 c)] (.int .i64 r) := by
 unfold zng at h
 have E := evT
 rcases zac h with ⟨h45_, h⟩ | ⟨h45_, h⟩
 rotate_left
 rcases zaz h with ⟨r48_, o47_, h⟩ | ⟨q38, o47_, h⟩
 obtain ⟨_, l46_, E⟩ := E.lp (zrr hg o47_)
 rotate_left
 obtain ⟨_, l49_, E⟩ := E.lp (zrr hg o47_)
 rotate_left
 all_goals
  obtain rfl := Option.some.inj h
  refine E.s fun n x => ?_
  first | (have := l46_; simp -dsimp -implicitDefEqProofs only [go_sem, func18, f18, *, simprocAttr]; refine zah (l46_.1 n (by omega) _ _ ?_ ?_ ?_ ?_ ?_ _ _ ?_); (iterate 5 (simp -dsimp -implicitDefEqProofs only [go_sem, *, simprocAttr])); simp only [zh1]; intro e m i0; simp -dsimp -implicitDefEqProofs only [go_sem, func18, f18, *, simprocAttr]) | (have := l49_; simp -dsimp -implicitDefEqProofs only [go_sem, func18, f18, *, simprocAttr]; refine zah (l49_.1 n (by omega) _ _ ?_ ?_ ?_ ?_ ?_ _ _ ?_); (iterate 5 (simp -dsimp -implicitDefEqProofs only [go_sem, *, simprocAttr])); simp only [zh1]; intro e m i0; simp -dsimp -implicitDefEqProofs only [go_sem, func18, f18, *, simprocAttr]) | (simp -dsimp -implicitDefEqProofs only [go_sem, func18, f18, *, simprocAttr])
theorem zy2 : ∀ s : Nat, s < big → zIk s := by
 intro s
 induction s with
 | zero => intro _; exact fun _ _ _ h => absurd h (by omega)
 | succ s ih =>
   intro hb
   have hg := ih (by omega)
   exact
    fun a b c h => zDT (sz := s) hg (zyD (kk := s + 1) (sz := s) (by omega) (by omega) (by omega))
theorem zD4 (a : (Sl zal)) (b : Int) (c : Int) (h : (zak a.l < big - 1 ∧ zak a.l < lim ∧ 0 ≤ b ∧ b ≤ 4294967296 ∧ 0 ≤ c ∧ c ≤ 4294967296)) : Ev cfg 18 [(dSl zap a), (.int .i64 b), (.int .i64 c)] (.int .i64 (zAu a b c)) := (zy2 (big - 1) (by unfold big; omega)) a b c h
def zkR (c1 : Int) (c2 : Sl (Sl zal)) (K : Ex → St → Option Res) (R : Option Res) : Out (Bool) (Int) → Prop
 | .ret r => ∀ (e : Env) (m : Mem), e 4 = (.bool r) → K .ret ⟨e, m⟩ = R
 | .done q => ∀ (e : Env) (m : Mem), K (.exit 0) ⟨e, m⟩ = R
noncomputable def zD7 : Code := zbq f5 [1, 0, 1, 0, 0]
theorem zwq {c1 : Int} {c2 : Sl (Sl zal)} {kk : Nat} : ∀ {k : Nat} {s3 : Int} {out : Out (Bool) (Int)}, zi1 c1 c2 kk k s3 = some out → ∃ N, ∀ n, N ≤ n → ∀ k, N ≤ k → ∀ (e : Env) (m : Mem), e 0 = (.int .i64 c1) → e 1 = (dSl (cSl zap) c2) → e 5 = (.int .i64 s3) → ∀ (K : Ex → St → Option Res) (R : Option Res), zkR c1 c2 K R out → zcj (zbH cfg (dfn cfg n) n zD7) K k ⟨e, m⟩ = R := by
 intro k
 induction k with
 | zero => intro s3 out h; cases h
 | succ k ih => ?_
 intro s3 out h
 have ih := fun x0 {out} => @ih x0 out
 unfold zi1 at h
 have E := evT
 rcases zac h with ⟨h1_, h⟩ | ⟨h1_, h⟩
 obtain ⟨y4, h2_, h⟩ := zaa h
 obtain ⟨_, h3_⟩ := zaI h2_
 have h3_ := zax h3_ (cSl zap)
 obtain ⟨_, h4_, h⟩ := zaa h
 have E := E.and (zD4 y4 c1 12 (zag h4_))
 rcases zac h with ⟨h5_, h⟩ | ⟨h5_, h⟩
 rotate_left
 rotate_left
 rotate_left
 all_goals
  first | (obtain rfl := Option.some.inj h; refine E.l fun n k x => ?_) | refine E.c (ih _ h) fun n k x I => ?_
  intro e m i0 i1 i2 K R hK
  rw [zau]
  (conv => lhs; arg 4; whnf)
  first | (simp -dsimp -implicitDefEqProofs only [go_sem, *, simprocAttr]; simp only [zkR] at hK; refine hK _ _ ?_; simp -dsimp -implicitDefEqProofs only [go_sem, *, simprocAttr]) | (simp -dsimp -implicitDefEqProofs only [go_sem, *, simprocAttr]; refine zah (I.1 _ _ ?_ ?_ ?_ _ _ hK); (iterate 3 (simp -dsimp -implicitDefEqProofs only [go_sem, *, simprocAttr]))) | (simp -dsimp -implicitDefEqProofs only [go_sem, *, simprocAttr]; simp only [zkR] at hK; refine hK _ _)
theorem zKJ {kk : Nat} {a : Int} {b : (Sl (Sl zal))} {r : Bool} (h : zuN kk a b = some r) : Ev cfg 5 [(.int .i64 a), (dSl (cSl zap) b)] (.bool r) := by
 unfold zuN at h
 have E := evT
 rcases zaz h with ⟨r8_, o7_, h⟩ | ⟨q6, o7_, h⟩
 obtain ⟨_, l6_, E⟩ := E.lp (zwq o7_)
 rotate_left
 obtain ⟨_, l9_, E⟩ := E.lp (zwq o7_)
 rotate_left
 all_goals
  obtain rfl := Option.some.inj h
  refine E.s fun n x => ?_
  first | (have := l6_; simp -dsimp -implicitDefEqProofs only [go_sem, func5, f5, *, simprocAttr]; refine zah (l6_.1 n (by omega) _ _ ?_ ?_ ?_ _ _ ?_); (iterate 3 (simp -dsimp -implicitDefEqProofs only [go_sem, *, simprocAttr])); simp only [zkR]; intro e m i0; simp -dsimp -implicitDefEqProofs only [go_sem, func5, f5, *, simprocAttr]) | (have := l9_; simp -dsimp -implicitDefEqProofs only [go_sem, func5, f5, *, simprocAttr]; refine zah (l9_.1 n (by omega) _ _ ?_ ?_ ?_ _ _ ?_); (iterate 3 (simp -dsimp -implicitDefEqProofs only [go_sem, *, simprocAttr])); simp only [zkR]; intro e m; simp -dsimp -implicitDefEqProofs only [go_sem, func5, f5, *, simprocAttr])
theorem zKN (a : Int) (b : Sl (Sl zal)) (h : 0 ≤ a ∧ a ≤ 4294967296 ∧ zcv b.l < lim) : Ev cfg 5 [(.int .i64 a), (dSl (cSl zap) b)] (.bool (zRK a b)) := zKJ (zD3 (kk := big) h (by have := zd2 b.l; rw [zgt] at h; unfold big; omega))
end Go.Proofs.Tryz
