/- Part of a proof. -/
import Derived.Test.YtaadpbhondmahaaGreatDoorT3
import Derived.Test.YtaadpbhondmahaaGreatDoorT8
set_option linter.all false
namespace Go.Proofs.Tryz
open Go.Ev
def zqi : Nat := 256
def zGw : List (Nat × (List D → Option D)) := [(235, zlZ), (186, ziF), (193, zHx), (237, zAD), (172, zlY zqi), (212, zAH zqi), (121, zqg), (128, zAF), (98, zyz), (96, zg4), (5, ztc)]
def zwV (f : Nat) : Option (List D → Option D) := (zGw.find? fun x => Nat.beq x.1 f).map (·.2)
def zNm : List Nat := [22, 47, 62, 113, 148, 149, 150, 151, 152, 153, 154, 155, 176, 179, 180, 199]
def zDu (f : Nat) : Bool := zNm.any fun x => Nat.beq x f
def zNl : List Nat := [26, 53]
def zDt (f : Nat) : Bool := zNl.any fun x => Nat.beq x f
noncomputable def cfg : Cfg := { P := prog, prim := zwV, byRef := zDu, fine := fun f => decide (f < 286), byRes := zDt }
@[go_sem] theorem zSk (f) : cfg.alt f = none := rfl
@[go_sem] theorem zVS : cfg.P = prog := rfl
@[go_sem] theorem zQS (f) : cfg.fine f = decide (f < 286) := rfl
@[go_sem] theorem zPk : cfg.prim 4 = none := rfl
@[go_sem] theorem zPj : cfg.prim 5 = some (ztc) := rfl
@[go_sem] theorem zPi : cfg.prim 7 = none := rfl
@[go_sem] theorem zPh : cfg.prim 9 = none := rfl
@[go_sem] theorem zNj : cfg.prim 18 = none := rfl
@[go_sem] theorem zNi : cfg.prim 19 = none := rfl
@[go_sem] theorem zNh : cfg.prim 20 = none := rfl
@[go_sem] theorem zNg : cfg.prim 21 = none := rfl
@[go_sem] theorem zNf : cfg.prim 22 = none := rfl
@[go_sem] theorem zNe : cfg.prim 23 = none := rfl
@[go_sem] theorem zNd : cfg.prim 24 = none := rfl
@[go_sem] theorem zNc : cfg.prim 29 = none := rfl
@[go_sem] theorem zNb : cfg.prim 30 = none := rfl
@[go_sem] theorem zNa : cfg.prim 31 = none := rfl
@[go_sem] theorem zM9 : cfg.prim 41 = none := rfl
@[go_sem] theorem zM8 : cfg.prim 42 = none := rfl
@[go_sem] theorem zM7 : cfg.prim 43 = none := rfl
@[go_sem] theorem zM6 : cfg.prim 44 = none := rfl
@[go_sem] theorem zM5 : cfg.prim 45 = none := rfl
@[go_sem] theorem zM4 : cfg.prim 46 = none := rfl
@[go_sem] theorem zM3 : cfg.prim 47 = none := rfl
@[go_sem] theorem zM2 : cfg.prim 48 = none := rfl
@[go_sem] theorem zM1 : cfg.prim 49 = none := rfl
@[go_sem] theorem zM0 : cfg.prim 50 = none := rfl
@[go_sem] theorem zMZ : cfg.prim 55 = none := rfl
@[go_sem] theorem zMY : cfg.prim 56 = none := rfl
@[go_sem] theorem zMX : cfg.prim 57 = none := rfl
@[go_sem] theorem zMW : cfg.prim 70 = none := rfl
@[go_sem] theorem zMV : cfg.prim 71 = none := rfl
@[go_sem] theorem zMU : cfg.prim 72 = none := rfl
@[go_sem] theorem zMT : cfg.prim 73 = none := rfl
@[go_sem] theorem zMS : cfg.prim 74 = none := rfl
@[go_sem] theorem zMR : cfg.prim 75 = none := rfl
@[go_sem] theorem zMQ : cfg.prim 76 = none := rfl
@[go_sem] theorem zMP : cfg.prim 77 = none := rfl
@[go_sem] theorem zMO : cfg.prim 78 = none := rfl
@[go_sem] theorem zMN : cfg.prim 79 = none := rfl
@[go_sem] theorem zMM : cfg.prim 80 = none := rfl
@[go_sem] theorem zML : cfg.prim 81 = none := rfl
@[go_sem] theorem zMK : cfg.prim 82 = none := rfl
@[go_sem] theorem zMJ : cfg.prim 83 = none := rfl
@[go_sem] theorem zMI : cfg.prim 84 = none := rfl
@[go_sem] theorem zMH : cfg.prim 85 = none := rfl
@[go_sem] theorem zMG : cfg.prim 86 = none := rfl
@[go_sem] theorem zMF : cfg.prim 87 = none := rfl
@[go_sem] theorem zME : cfg.prim 88 = none := rfl
@[go_sem] theorem zMD : cfg.prim 89 = none := rfl
@[go_sem] theorem zMC : cfg.prim 90 = none := rfl
@[go_sem] theorem zMB : cfg.prim 91 = none := rfl
@[go_sem] theorem zMA : cfg.prim 92 = none := rfl
@[go_sem] theorem zMz : cfg.prim 93 = none := rfl
@[go_sem] theorem zMy : cfg.prim 94 = none := rfl
@[go_sem] theorem zMx : cfg.prim 95 = none := rfl
@[go_sem] theorem zMw : cfg.prim 96 = some (zg4) := rfl
@[go_sem] theorem zMv : cfg.prim 97 = none := rfl
@[go_sem] theorem zMu : cfg.prim 98 = some (zyz) := rfl
@[go_sem] theorem zIC : cfg.prim 105 = none := rfl
@[go_sem] theorem zIB : cfg.prim 106 = none := rfl
@[go_sem] theorem zIA : cfg.prim 107 = none := rfl
@[go_sem] theorem zIz : cfg.prim 115 = none := rfl
@[go_sem] theorem zIy : cfg.prim 116 = none := rfl
@[go_sem] theorem zIx : cfg.prim 117 = none := rfl
@[go_sem] theorem zIw : cfg.prim 118 = none := rfl
@[go_sem] theorem zIv : cfg.prim 119 = none := rfl
@[go_sem] theorem zIu : cfg.prim 120 = none := rfl
@[go_sem] theorem zIt : cfg.prim 121 = some (zqg) := rfl
@[go_sem] theorem zIs : cfg.prim 122 = none := rfl
@[go_sem] theorem zIr : cfg.prim 123 = none := rfl
@[go_sem] theorem zIq : cfg.prim 124 = none := rfl
@[go_sem] theorem zIp : cfg.prim 125 = none := rfl
@[go_sem] theorem zIo : cfg.prim 127 = none := rfl
@[go_sem] theorem zIn : cfg.prim 128 = some (zAF) := rfl
@[go_sem] theorem zIm : cfg.prim 145 = none := rfl
@[go_sem] theorem zIl : cfg.prim 146 = none := rfl
@[go_sem] theorem zIk : cfg.prim 147 = none := rfl
@[go_sem] theorem zIj : cfg.prim 158 = none := rfl
@[go_sem] theorem zIi : cfg.prim 164 = none := rfl
@[go_sem] theorem zIh : cfg.prim 165 = none := rfl
@[go_sem] theorem zIg : cfg.prim 166 = none := rfl
@[go_sem] theorem zIf : cfg.prim 167 = none := rfl
@[go_sem] theorem zIe : cfg.prim 171 = none := rfl
@[go_sem] theorem zId : cfg.prim 172 = some (zlY zqi) := rfl
@[go_sem] theorem zIc : cfg.prim 173 = none := rfl
@[go_sem] theorem zIb : cfg.prim 174 = none := rfl
@[go_sem] theorem zIa : cfg.prim 175 = none := rfl
@[go_sem] theorem zH9 : cfg.prim 186 = some (ziF) := rfl
@[go_sem] theorem zH8 : cfg.prim 189 = none := rfl
@[go_sem] theorem zH7 : cfg.prim 192 = none := rfl
@[go_sem] theorem zH6 : cfg.prim 193 = some (zHx) := rfl
@[go_sem] theorem zH5 : cfg.prim 194 = none := rfl
@[go_sem] theorem zH4 : cfg.prim 195 = none := rfl
@[go_sem] theorem zH3 : cfg.prim 196 = none := rfl
@[go_sem] theorem zH2 : cfg.prim 197 = none := rfl
@[go_sem] theorem zH1 : cfg.prim 198 = none := rfl
@[go_sem] theorem zH0 : cfg.prim 209 = none := rfl
@[go_sem] theorem zHZ : cfg.prim 210 = none := rfl
@[go_sem] theorem zHY : cfg.prim 211 = none := rfl
@[go_sem] theorem zHX : cfg.prim 212 = some (zAH zqi) := rfl
@[go_sem] theorem zHW : cfg.prim 213 = none := rfl
@[go_sem] theorem zHV : cfg.prim 214 = none := rfl
@[go_sem] theorem zHU : cfg.prim 223 = none := rfl
@[go_sem] theorem zHT : cfg.prim 225 = none := rfl
@[go_sem] theorem zHS : cfg.prim 226 = none := rfl
@[go_sem] theorem zHR : cfg.prim 234 = none := rfl
@[go_sem] theorem zHQ : cfg.prim 235 = some (zlZ) := rfl
@[go_sem] theorem zHP : cfg.prim 236 = none := rfl
@[go_sem] theorem zHO : cfg.prim 237 = some (zAD) := rfl
@[go_sem] theorem zHN : cfg.prim 240 = none := rfl
@[go_sem] theorem zSj : cfg.byRef 4 = false := rfl
@[go_sem] theorem zSi : cfg.byRef 5 = false := rfl
@[go_sem] theorem zSh : cfg.byRef 7 = false := rfl
@[go_sem] theorem zSg : cfg.byRef 9 = false := rfl
@[go_sem] theorem zRI : cfg.byRef 18 = false := rfl
@[go_sem] theorem zRH : cfg.byRef 19 = false := rfl
@[go_sem] theorem zRG : cfg.byRef 20 = false := rfl
@[go_sem] theorem zRF : cfg.byRef 21 = false := rfl
@[go_sem] theorem zRE : cfg.byRef 22 = true := rfl
@[go_sem] theorem zRD : cfg.byRef 23 = false := rfl
@[go_sem] theorem zRC : cfg.byRef 24 = false := rfl
@[go_sem] theorem zRB : cfg.byRef 29 = false := rfl
@[go_sem] theorem zRA : cfg.byRef 30 = false := rfl
@[go_sem] theorem zRz : cfg.byRef 31 = false := rfl
@[go_sem] theorem zRy : cfg.byRef 41 = false := rfl
@[go_sem] theorem zRx : cfg.byRef 42 = false := rfl
@[go_sem] theorem zRw : cfg.byRef 43 = false := rfl
@[go_sem] theorem zRv : cfg.byRef 44 = false := rfl
@[go_sem] theorem zRu : cfg.byRef 45 = false := rfl
@[go_sem] theorem zRt : cfg.byRef 46 = false := rfl
@[go_sem] theorem zRs : cfg.byRef 47 = true := rfl
@[go_sem] theorem zRr : cfg.byRef 48 = false := rfl
@[go_sem] theorem zRq : cfg.byRef 49 = false := rfl
@[go_sem] theorem zRp : cfg.byRef 50 = false := rfl
@[go_sem] theorem zRo : cfg.byRef 55 = false := rfl
@[go_sem] theorem zRn : cfg.byRef 56 = false := rfl
@[go_sem] theorem zRm : cfg.byRef 57 = false := rfl
@[go_sem] theorem zRl : cfg.byRef 70 = false := rfl
@[go_sem] theorem zRk : cfg.byRef 71 = false := rfl
@[go_sem] theorem zRj : cfg.byRef 72 = false := rfl
@[go_sem] theorem zRi : cfg.byRef 73 = false := rfl
@[go_sem] theorem zRh : cfg.byRef 74 = false := rfl
@[go_sem] theorem zRg : cfg.byRef 75 = false := rfl
@[go_sem] theorem zRf : cfg.byRef 76 = false := rfl
@[go_sem] theorem zRe : cfg.byRef 77 = false := rfl
@[go_sem] theorem zRd : cfg.byRef 78 = false := rfl
@[go_sem] theorem zRc : cfg.byRef 79 = false := rfl
@[go_sem] theorem zRb : cfg.byRef 80 = false := rfl
@[go_sem] theorem zRa : cfg.byRef 81 = false := rfl
@[go_sem] theorem zQ9 : cfg.byRef 82 = false := rfl
@[go_sem] theorem zQ8 : cfg.byRef 83 = false := rfl
@[go_sem] theorem zQ7 : cfg.byRef 84 = false := rfl
@[go_sem] theorem zQ6 : cfg.byRef 85 = false := rfl
@[go_sem] theorem zQ5 : cfg.byRef 86 = false := rfl
@[go_sem] theorem zQ4 : cfg.byRef 87 = false := rfl
@[go_sem] theorem zQ3 : cfg.byRef 88 = false := rfl
@[go_sem] theorem zQ2 : cfg.byRef 89 = false := rfl
@[go_sem] theorem zQ1 : cfg.byRef 90 = false := rfl
@[go_sem] theorem zQ0 : cfg.byRef 91 = false := rfl
@[go_sem] theorem zQZ : cfg.byRef 92 = false := rfl
@[go_sem] theorem zQY : cfg.byRef 93 = false := rfl
@[go_sem] theorem zQX : cfg.byRef 94 = false := rfl
@[go_sem] theorem zQW : cfg.byRef 95 = false := rfl
@[go_sem] theorem zQV : cfg.byRef 96 = false := rfl
@[go_sem] theorem zQU : cfg.byRef 97 = false := rfl
@[go_sem] theorem zQT : cfg.byRef 98 = false := rfl
@[go_sem] theorem zQa : cfg.byRef 105 = false := rfl
@[go_sem] theorem zP9 : cfg.byRef 106 = false := rfl
@[go_sem] theorem zP8 : cfg.byRef 107 = false := rfl
@[go_sem] theorem zP7 : cfg.byRef 115 = false := rfl
@[go_sem] theorem zP6 : cfg.byRef 116 = false := rfl
@[go_sem] theorem zP5 : cfg.byRef 117 = false := rfl
@[go_sem] theorem zP4 : cfg.byRef 118 = false := rfl
@[go_sem] theorem zP3 : cfg.byRef 119 = false := rfl
@[go_sem] theorem zP2 : cfg.byRef 120 = false := rfl
@[go_sem] theorem zP1 : cfg.byRef 121 = false := rfl
@[go_sem] theorem zP0 : cfg.byRef 122 = false := rfl
@[go_sem] theorem zPZ : cfg.byRef 123 = false := rfl
@[go_sem] theorem zPY : cfg.byRef 124 = false := rfl
@[go_sem] theorem zPX : cfg.byRef 125 = false := rfl
@[go_sem] theorem zPW : cfg.byRef 127 = false := rfl
@[go_sem] theorem zPV : cfg.byRef 128 = false := rfl
@[go_sem] theorem zPU : cfg.byRef 145 = false := rfl
@[go_sem] theorem zPT : cfg.byRef 146 = false := rfl
@[go_sem] theorem zPS : cfg.byRef 147 = false := rfl
@[go_sem] theorem zPR : cfg.byRef 158 = false := rfl
@[go_sem] theorem zPQ : cfg.byRef 164 = false := rfl
@[go_sem] theorem zPP : cfg.byRef 165 = false := rfl
@[go_sem] theorem zPO : cfg.byRef 166 = false := rfl
@[go_sem] theorem zPN : cfg.byRef 167 = false := rfl
@[go_sem] theorem zPM : cfg.byRef 171 = false := rfl
@[go_sem] theorem zPL : cfg.byRef 172 = false := rfl
@[go_sem] theorem zPK : cfg.byRef 173 = false := rfl
@[go_sem] theorem zPJ : cfg.byRef 174 = false := rfl
@[go_sem] theorem zPI : cfg.byRef 175 = false := rfl
@[go_sem] theorem zPH : cfg.byRef 186 = false := rfl
@[go_sem] theorem zPG : cfg.byRef 189 = false := rfl
@[go_sem] theorem zPF : cfg.byRef 192 = false := rfl
@[go_sem] theorem zPE : cfg.byRef 193 = false := rfl
@[go_sem] theorem zPD : cfg.byRef 194 = false := rfl
@[go_sem] theorem zPC : cfg.byRef 195 = false := rfl
@[go_sem] theorem zPB : cfg.byRef 196 = false := rfl
@[go_sem] theorem zPA : cfg.byRef 197 = false := rfl
@[go_sem] theorem zPz : cfg.byRef 198 = false := rfl
@[go_sem] theorem zPy : cfg.byRef 209 = false := rfl
@[go_sem] theorem zPx : cfg.byRef 210 = false := rfl
@[go_sem] theorem zPw : cfg.byRef 211 = false := rfl
@[go_sem] theorem zPv : cfg.byRef 212 = false := rfl
@[go_sem] theorem zPu : cfg.byRef 213 = false := rfl
@[go_sem] theorem zPt : cfg.byRef 214 = false := rfl
@[go_sem] theorem zPs : cfg.byRef 223 = false := rfl
@[go_sem] theorem zPr : cfg.byRef 225 = false := rfl
@[go_sem] theorem zPq : cfg.byRef 226 = false := rfl
@[go_sem] theorem zPp : cfg.byRef 234 = false := rfl
@[go_sem] theorem zPo : cfg.byRef 235 = false := rfl
@[go_sem] theorem zPn : cfg.byRef 236 = false := rfl
@[go_sem] theorem zPm : cfg.byRef 237 = false := rfl
@[go_sem] theorem zPl : cfg.byRef 240 = false := rfl
@[go_sem] theorem zQR : cfg.byRes 0 = false := rfl
@[go_sem] theorem zQQ : cfg.byRes 1 = false := rfl
@[go_sem] theorem zQP : cfg.byRes 2 = false := rfl
@[go_sem] theorem zQO : cfg.byRes 3 = false := rfl
@[go_sem] theorem zQN : cfg.byRes 4 = false := rfl
@[go_sem] theorem zQM : cfg.byRes 5 = false := rfl
@[go_sem] theorem zQL : cfg.byRes 6 = false := rfl
@[go_sem] theorem zQK : cfg.byRes 7 = false := rfl
@[go_sem] theorem zQJ : cfg.byRes 8 = false := rfl
@[go_sem] theorem zQI : cfg.byRes 9 = false := rfl
@[go_sem] theorem zPg : cfg.byRes 10 = false := rfl
@[go_sem] theorem zPf : cfg.byRes 11 = false := rfl
@[go_sem] theorem zPe : cfg.byRes 12 = false := rfl
@[go_sem] theorem zPd : cfg.byRes 13 = false := rfl
@[go_sem] theorem zPc : cfg.byRes 14 = false := rfl
@[go_sem] theorem zPb : cfg.byRes 15 = false := rfl
@[go_sem] theorem zPa : cfg.byRes 16 = false := rfl
@[go_sem] theorem zO9 : cfg.byRes 17 = false := rfl
@[go_sem] theorem zO8 : cfg.byRes 18 = false := rfl
@[go_sem] theorem zO7 : cfg.byRes 19 = false := rfl
@[go_sem] theorem zO6 : cfg.byRes 20 = false := rfl
@[go_sem] theorem zO5 : cfg.byRes 21 = false := rfl
@[go_sem] theorem zO4 : cfg.byRes 22 = false := rfl
@[go_sem] theorem zO3 : cfg.byRes 23 = false := rfl
@[go_sem] theorem zO2 : cfg.byRes 24 = false := rfl
@[go_sem] theorem zO1 : cfg.byRes 25 = false := rfl
@[go_sem] theorem zO0 : cfg.byRes 26 = true := rfl
@[go_sem] theorem zOZ : cfg.byRes 27 = false := rfl
@[go_sem] theorem zOY : cfg.byRes 28 = false := rfl
@[go_sem] theorem zOX : cfg.byRes 29 = false := rfl
@[go_sem] theorem zOW : cfg.byRes 30 = false := rfl
@[go_sem] theorem zOV : cfg.byRes 31 = false := rfl
@[go_sem] theorem zOU : cfg.byRes 32 = false := rfl
@[go_sem] theorem zOT : cfg.byRes 33 = false := rfl
@[go_sem] theorem zOS : cfg.byRes 34 = false := rfl
@[go_sem] theorem zOR : cfg.byRes 35 = false := rfl
@[go_sem] theorem zOQ : cfg.byRes 36 = false := rfl
@[go_sem] theorem zOP : cfg.byRes 37 = false := rfl
@[go_sem] theorem zOO : cfg.byRes 38 = false := rfl
@[go_sem] theorem zON : cfg.byRes 39 = false := rfl
@[go_sem] theorem zOM : cfg.byRes 40 = false := rfl
@[go_sem] theorem zOL : cfg.byRes 41 = false := rfl
@[go_sem] theorem zOK : cfg.byRes 42 = false := rfl
@[go_sem] theorem zOJ : cfg.byRes 43 = false := rfl
@[go_sem] theorem zOI : cfg.byRes 44 = false := rfl
@[go_sem] theorem zOH : cfg.byRes 45 = false := rfl
@[go_sem] theorem zOG : cfg.byRes 46 = false := rfl
@[go_sem] theorem zOF : cfg.byRes 47 = false := rfl
@[go_sem] theorem zOE : cfg.byRes 48 = false := rfl
@[go_sem] theorem zOD : cfg.byRes 49 = false := rfl
@[go_sem] theorem zOC : cfg.byRes 50 = false := rfl
@[go_sem] theorem zOB : cfg.byRes 51 = false := rfl
@[go_sem] theorem zOA : cfg.byRes 52 = false := rfl
@[go_sem] theorem zOz : cfg.byRes 53 = true := rfl
@[go_sem] theorem zOy : cfg.byRes 54 = false := rfl
@[go_sem] theorem zOx : cfg.byRes 55 = false := rfl
@[go_sem] theorem zOw : cfg.byRes 56 = false := rfl
@[go_sem] theorem zOv : cfg.byRes 57 = false := rfl
@[go_sem] theorem zOu : cfg.byRes 58 = false := rfl
@[go_sem] theorem zOt : cfg.byRes 59 = false := rfl
@[go_sem] theorem zOs : cfg.byRes 60 = false := rfl
@[go_sem] theorem zOr : cfg.byRes 61 = false := rfl
@[go_sem] theorem zOq : cfg.byRes 62 = false := rfl
@[go_sem] theorem zOp : cfg.byRes 63 = false := rfl
@[go_sem] theorem zOo : cfg.byRes 64 = false := rfl
@[go_sem] theorem zOn : cfg.byRes 65 = false := rfl
@[go_sem] theorem zOm : cfg.byRes 66 = false := rfl
@[go_sem] theorem zOl : cfg.byRes 67 = false := rfl
@[go_sem] theorem zOk : cfg.byRes 68 = false := rfl
@[go_sem] theorem zOj : cfg.byRes 69 = false := rfl
@[go_sem] theorem zOi : cfg.byRes 70 = false := rfl
@[go_sem] theorem zOh : cfg.byRes 71 = false := rfl
@[go_sem] theorem zOg : cfg.byRes 72 = false := rfl
@[go_sem] theorem zOf : cfg.byRes 73 = false := rfl
@[go_sem] theorem zOe : cfg.byRes 74 = false := rfl
@[go_sem] theorem zOd : cfg.byRes 75 = false := rfl
@[go_sem] theorem zOc : cfg.byRes 76 = false := rfl
@[go_sem] theorem zOb : cfg.byRes 77 = false := rfl
@[go_sem] theorem zOa : cfg.byRes 78 = false := rfl
@[go_sem] theorem zN9 : cfg.byRes 79 = false := rfl
@[go_sem] theorem zN8 : cfg.byRes 80 = false := rfl
@[go_sem] theorem zN7 : cfg.byRes 81 = false := rfl
@[go_sem] theorem zN6 : cfg.byRes 82 = false := rfl
@[go_sem] theorem zN5 : cfg.byRes 83 = false := rfl
@[go_sem] theorem zN4 : cfg.byRes 84 = false := rfl
@[go_sem] theorem zN3 : cfg.byRes 85 = false := rfl
@[go_sem] theorem zN2 : cfg.byRes 86 = false := rfl
@[go_sem] theorem zN1 : cfg.byRes 87 = false := rfl
@[go_sem] theorem zN0 : cfg.byRes 88 = false := rfl
@[go_sem] theorem zNZ : cfg.byRes 89 = false := rfl
@[go_sem] theorem zNY : cfg.byRes 90 = false := rfl
@[go_sem] theorem zNX : cfg.byRes 91 = false := rfl
@[go_sem] theorem zNW : cfg.byRes 92 = false := rfl
@[go_sem] theorem zNV : cfg.byRes 93 = false := rfl
@[go_sem] theorem zNU : cfg.byRes 94 = false := rfl
@[go_sem] theorem zNT : cfg.byRes 95 = false := rfl
@[go_sem] theorem zNS : cfg.byRes 96 = false := rfl
@[go_sem] theorem zNR : cfg.byRes 97 = false := rfl
@[go_sem] theorem zNQ : cfg.byRes 98 = false := rfl
@[go_sem] theorem zNP : cfg.byRes 99 = false := rfl
@[go_sem] theorem zMt : cfg.byRes 100 = false := rfl
@[go_sem] theorem zMs : cfg.byRes 101 = false := rfl
@[go_sem] theorem zMr : cfg.byRes 102 = false := rfl
@[go_sem] theorem zMq : cfg.byRes 103 = false := rfl
@[go_sem] theorem zMp : cfg.byRes 104 = false := rfl
@[go_sem] theorem zMo : cfg.byRes 105 = false := rfl
@[go_sem] theorem zMn : cfg.byRes 106 = false := rfl
@[go_sem] theorem zMm : cfg.byRes 107 = false := rfl
@[go_sem] theorem zMl : cfg.byRes 108 = false := rfl
@[go_sem] theorem zMk : cfg.byRes 109 = false := rfl
@[go_sem] theorem zMj : cfg.byRes 110 = false := rfl
@[go_sem] theorem zMi : cfg.byRes 111 = false := rfl
@[go_sem] theorem zMh : cfg.byRes 112 = false := rfl
@[go_sem] theorem zMg : cfg.byRes 113 = false := rfl
@[go_sem] theorem zMf : cfg.byRes 114 = false := rfl
@[go_sem] theorem zMe : cfg.byRes 115 = false := rfl
@[go_sem] theorem zMd : cfg.byRes 116 = false := rfl
@[go_sem] theorem zMc : cfg.byRes 117 = false := rfl
@[go_sem] theorem zMb : cfg.byRes 118 = false := rfl
@[go_sem] theorem zMa : cfg.byRes 119 = false := rfl
@[go_sem] theorem zL9 : cfg.byRes 120 = false := rfl
@[go_sem] theorem zL8 : cfg.byRes 121 = false := rfl
@[go_sem] theorem zL7 : cfg.byRes 122 = false := rfl
@[go_sem] theorem zL6 : cfg.byRes 123 = false := rfl
@[go_sem] theorem zL5 : cfg.byRes 124 = false := rfl
@[go_sem] theorem zL4 : cfg.byRes 125 = false := rfl
@[go_sem] theorem zL3 : cfg.byRes 126 = false := rfl
@[go_sem] theorem zL2 : cfg.byRes 127 = false := rfl
@[go_sem] theorem zL1 : cfg.byRes 128 = false := rfl
@[go_sem] theorem zL0 : cfg.byRes 129 = false := rfl
@[go_sem] theorem zLZ : cfg.byRes 130 = false := rfl
@[go_sem] theorem zLY : cfg.byRes 131 = false := rfl
@[go_sem] theorem zLX : cfg.byRes 132 = false := rfl
@[go_sem] theorem zLW : cfg.byRes 133 = false := rfl
@[go_sem] theorem zLV : cfg.byRes 134 = false := rfl
@[go_sem] theorem zLU : cfg.byRes 135 = false := rfl
@[go_sem] theorem zLT : cfg.byRes 136 = false := rfl
@[go_sem] theorem zLS : cfg.byRes 137 = false := rfl
@[go_sem] theorem zLR : cfg.byRes 138 = false := rfl
@[go_sem] theorem zLQ : cfg.byRes 139 = false := rfl
@[go_sem] theorem zLP : cfg.byRes 140 = false := rfl
@[go_sem] theorem zLO : cfg.byRes 141 = false := rfl
@[go_sem] theorem zLN : cfg.byRes 142 = false := rfl
@[go_sem] theorem zLM : cfg.byRes 143 = false := rfl
@[go_sem] theorem zLL : cfg.byRes 144 = false := rfl
@[go_sem] theorem zLK : cfg.byRes 145 = false := rfl
@[go_sem] theorem zLJ : cfg.byRes 146 = false := rfl
@[go_sem] theorem zLI : cfg.byRes 147 = false := rfl
@[go_sem] theorem zLH : cfg.byRes 148 = false := rfl
@[go_sem] theorem zLG : cfg.byRes 149 = false := rfl
@[go_sem] theorem zLF : cfg.byRes 150 = false := rfl
@[go_sem] theorem zLE : cfg.byRes 151 = false := rfl
@[go_sem] theorem zLD : cfg.byRes 152 = false := rfl
@[go_sem] theorem zLC : cfg.byRes 153 = false := rfl
@[go_sem] theorem zLB : cfg.byRes 154 = false := rfl
@[go_sem] theorem zLA : cfg.byRes 155 = false := rfl
@[go_sem] theorem zLz : cfg.byRes 156 = false := rfl
@[go_sem] theorem zLy : cfg.byRes 157 = false := rfl
@[go_sem] theorem zLx : cfg.byRes 158 = false := rfl
@[go_sem] theorem zLw : cfg.byRes 159 = false := rfl
@[go_sem] theorem zLv : cfg.byRes 160 = false := rfl
@[go_sem] theorem zLu : cfg.byRes 161 = false := rfl
@[go_sem] theorem zLt : cfg.byRes 162 = false := rfl
@[go_sem] theorem zLs : cfg.byRes 163 = false := rfl
@[go_sem] theorem zLr : cfg.byRes 164 = false := rfl
@[go_sem] theorem zLq : cfg.byRes 165 = false := rfl
@[go_sem] theorem zLp : cfg.byRes 166 = false := rfl
@[go_sem] theorem zLo : cfg.byRes 167 = false := rfl
@[go_sem] theorem zLn : cfg.byRes 168 = false := rfl
@[go_sem] theorem zLm : cfg.byRes 169 = false := rfl
@[go_sem] theorem zLl : cfg.byRes 170 = false := rfl
@[go_sem] theorem zLk : cfg.byRes 171 = false := rfl
@[go_sem] theorem zLj : cfg.byRes 172 = false := rfl
@[go_sem] theorem zLi : cfg.byRes 173 = false := rfl
@[go_sem] theorem zLh : cfg.byRes 174 = false := rfl
@[go_sem] theorem zLg : cfg.byRes 175 = false := rfl
@[go_sem] theorem zLf : cfg.byRes 176 = false := rfl
@[go_sem] theorem zLe : cfg.byRes 177 = false := rfl
@[go_sem] theorem zLd : cfg.byRes 178 = false := rfl
@[go_sem] theorem zLc : cfg.byRes 179 = false := rfl
@[go_sem] theorem zLb : cfg.byRes 180 = false := rfl
@[go_sem] theorem zLa : cfg.byRes 181 = false := rfl
@[go_sem] theorem zK9 : cfg.byRes 182 = false := rfl
@[go_sem] theorem zK8 : cfg.byRes 183 = false := rfl
@[go_sem] theorem zK7 : cfg.byRes 184 = false := rfl
@[go_sem] theorem zK6 : cfg.byRes 185 = false := rfl
@[go_sem] theorem zK5 : cfg.byRes 186 = false := rfl
@[go_sem] theorem zK4 : cfg.byRes 187 = false := rfl
@[go_sem] theorem zK3 : cfg.byRes 188 = false := rfl
@[go_sem] theorem zK2 : cfg.byRes 189 = false := rfl
@[go_sem] theorem zK1 : cfg.byRes 190 = false := rfl
@[go_sem] theorem zK0 : cfg.byRes 191 = false := rfl
@[go_sem] theorem zKZ : cfg.byRes 192 = false := rfl
@[go_sem] theorem zKY : cfg.byRes 193 = false := rfl
@[go_sem] theorem zKX : cfg.byRes 194 = false := rfl
@[go_sem] theorem zKW : cfg.byRes 195 = false := rfl
@[go_sem] theorem zKV : cfg.byRes 196 = false := rfl
@[go_sem] theorem zKU : cfg.byRes 197 = false := rfl
@[go_sem] theorem zKT : cfg.byRes 198 = false := rfl
@[go_sem] theorem zKS : cfg.byRes 199 = false := rfl
@[go_sem] theorem zKR : cfg.byRes 200 = false := rfl
@[go_sem] theorem zKQ : cfg.byRes 201 = false := rfl
@[go_sem] theorem zKP : cfg.byRes 202 = false := rfl
@[go_sem] theorem zKO : cfg.byRes 203 = false := rfl
@[go_sem] theorem zKN : cfg.byRes 204 = false := rfl
@[go_sem] theorem zKM : cfg.byRes 205 = false := rfl
@[go_sem] theorem zKL : cfg.byRes 206 = false := rfl
@[go_sem] theorem zKK : cfg.byRes 207 = false := rfl
@[go_sem] theorem zKJ : cfg.byRes 208 = false := rfl
@[go_sem] theorem zKI : cfg.byRes 209 = false := rfl
@[go_sem] theorem zKH : cfg.byRes 210 = false := rfl
@[go_sem] theorem zKG : cfg.byRes 211 = false := rfl
@[go_sem] theorem zKF : cfg.byRes 212 = false := rfl
@[go_sem] theorem zKE : cfg.byRes 213 = false := rfl
@[go_sem] theorem zKD : cfg.byRes 214 = false := rfl
@[go_sem] theorem zKC : cfg.byRes 215 = false := rfl
@[go_sem] theorem zKB : cfg.byRes 216 = false := rfl
@[go_sem] theorem zKA : cfg.byRes 217 = false := rfl
@[go_sem] theorem zKz : cfg.byRes 218 = false := rfl
@[go_sem] theorem zKy : cfg.byRes 219 = false := rfl
@[go_sem] theorem zKx : cfg.byRes 220 = false := rfl
@[go_sem] theorem zKw : cfg.byRes 221 = false := rfl
@[go_sem] theorem zKv : cfg.byRes 222 = false := rfl
@[go_sem] theorem zKu : cfg.byRes 223 = false := rfl
@[go_sem] theorem zKt : cfg.byRes 224 = false := rfl
@[go_sem] theorem zKs : cfg.byRes 225 = false := rfl
@[go_sem] theorem zKr : cfg.byRes 226 = false := rfl
@[go_sem] theorem zKq : cfg.byRes 227 = false := rfl
@[go_sem] theorem zKp : cfg.byRes 228 = false := rfl
@[go_sem] theorem zKo : cfg.byRes 229 = false := rfl
@[go_sem] theorem zKn : cfg.byRes 230 = false := rfl
@[go_sem] theorem zKm : cfg.byRes 231 = false := rfl
@[go_sem] theorem zKl : cfg.byRes 232 = false := rfl
@[go_sem] theorem zKk : cfg.byRes 233 = false := rfl
@[go_sem] theorem zKj : cfg.byRes 234 = false := rfl
@[go_sem] theorem zKi : cfg.byRes 235 = false := rfl
@[go_sem] theorem zKh : cfg.byRes 236 = false := rfl
@[go_sem] theorem zKg : cfg.byRes 237 = false := rfl
@[go_sem] theorem zKf : cfg.byRes 238 = false := rfl
@[go_sem] theorem zKe : cfg.byRes 239 = false := rfl
@[go_sem] theorem zKd : cfg.byRes 240 = false := rfl
@[go_sem] theorem zKc : cfg.byRes 241 = false := rfl
@[go_sem] theorem zKb : cfg.byRes 242 = false := rfl
@[go_sem] theorem zKa : cfg.byRes 243 = false := rfl
@[go_sem] theorem zJ9 : cfg.byRes 244 = false := rfl
@[go_sem] theorem zJ8 : cfg.byRes 245 = false := rfl
@[go_sem] theorem zJ7 : cfg.byRes 246 = false := rfl
@[go_sem] theorem zJ6 : cfg.byRes 247 = false := rfl
@[go_sem] theorem zJ5 : cfg.byRes 248 = false := rfl
@[go_sem] theorem zJ4 : cfg.byRes 249 = false := rfl
@[go_sem] theorem zJ3 : cfg.byRes 250 = false := rfl
@[go_sem] theorem zJ2 : cfg.byRes 251 = false := rfl
@[go_sem] theorem zJ1 : cfg.byRes 252 = false := rfl
@[go_sem] theorem zJ0 : cfg.byRes 253 = false := rfl
@[go_sem] theorem zJZ : cfg.byRes 254 = false := rfl
@[go_sem] theorem zJY : cfg.byRes 255 = false := rfl
@[go_sem] theorem zJX : cfg.byRes 256 = false := rfl
@[go_sem] theorem zJW : cfg.byRes 257 = false := rfl
@[go_sem] theorem zJV : cfg.byRes 258 = false := rfl
@[go_sem] theorem zJU : cfg.byRes 259 = false := rfl
@[go_sem] theorem zJT : cfg.byRes 260 = false := rfl
@[go_sem] theorem zJS : cfg.byRes 261 = false := rfl
@[go_sem] theorem zJR : cfg.byRes 262 = false := rfl
@[go_sem] theorem zJQ : cfg.byRes 263 = false := rfl
@[go_sem] theorem zJP : cfg.byRes 264 = false := rfl
@[go_sem] theorem zJO : cfg.byRes 265 = false := rfl
@[go_sem] theorem zJN : cfg.byRes 266 = false := rfl
@[go_sem] theorem zJM : cfg.byRes 267 = false := rfl
@[go_sem] theorem zJL : cfg.byRes 268 = false := rfl
@[go_sem] theorem zJK : cfg.byRes 269 = false := rfl
@[go_sem] theorem zJJ : cfg.byRes 270 = false := rfl
@[go_sem] theorem zJI : cfg.byRes 271 = false := rfl
@[go_sem] theorem zJH : cfg.byRes 272 = false := rfl
@[go_sem] theorem zJG : cfg.byRes 273 = false := rfl
@[go_sem] theorem zJF : cfg.byRes 274 = false := rfl
@[go_sem] theorem zJE : cfg.byRes 275 = false := rfl
@[go_sem] theorem zJD : cfg.byRes 276 = false := rfl
@[go_sem] theorem zJC : cfg.byRes 277 = false := rfl
@[go_sem] theorem zJB : cfg.byRes 278 = false := rfl
@[go_sem] theorem zJA : cfg.byRes 279 = false := rfl
@[go_sem] theorem zJz : cfg.byRes 280 = false := rfl
@[go_sem] theorem zJy : cfg.byRes 281 = false := rfl
@[go_sem] theorem zJx : cfg.byRes 282 = false := rfl
@[go_sem] theorem zJw : cfg.byRes 283 = false := rfl
@[go_sem] theorem zJv : cfg.byRes 284 = false := rfl
@[go_sem] theorem zJu : cfg.byRes 285 = false := rfl
end Go.Proofs.Tryz
set_option maxRecDepth 100000
set_option maxHeartbeats 4000000
set_option linter.unusedSimpArgs false
set_option linter.unusedVariables false
namespace Go.Proofs.Tryz
open Go.Ev
end Go.Proofs.Tryz
set_option maxRecDepth 100000
set_option maxHeartbeats 4000000
set_option linter.unusedSimpArgs false
set_option linter.unusedVariables false
namespace Go.Proofs.Tryz
open Go.Ev
theorem ztR {kk : Nat} {a : Int} {r : Bool} (h : zip kk a = some r) : Ev cfg 117 [(.int .i64 a)] (.bool r) := by
 unfold zip at h
 have E := evT
 obtain rfl := Option.some.inj h
 refine E.s fun n x => ?_
 simp -dsimp -implicitDefEqProofs only [go_sem, func117, f117, *, simprocAttr]
theorem zrE {kk : Nat} {a : Int} {r : Bool} (h : zhg kk a = some r) : Ev cfg 158 [(.int .i64 a)] (.bool r) := by
 unfold zhg at h
 have E := evT
 obtain rfl := Option.some.inj h
 refine E.s fun n x => ?_
 simp -dsimp -implicitDefEqProofs only [go_sem, func158, f158, *, simprocAttr]
theorem zoq (a : Int) : Ev cfg 117 [(.int .i64 a)] (.bool (zAQ a)) := ztR (zqS 0 a)
theorem zmf (a : Int) : Ev cfg 158 [(.int .i64 a)] (.bool (zAQ a)) := zrE (zoZ 0 a)
theorem zrF {kk : Nat} {a : Int} {b : Int} {r : Int} (h : zhh kk a b = some r) : Ev cfg 79 [(.int .i64 a), (.int .i64 b)] (.int .i64 r) := by
 unfold zhh at h
 have E := evT
 have E := E.and (zoq a)
 have E := E.and (zoq b)
 rcases zae h with ⟨h1_, h⟩ | ⟨h1_, h⟩
 rcases zae h with ⟨h2_, h⟩ | ⟨h2_, h⟩
 rotate_left
 rotate_left
 rcases zae h with ⟨h3_, h⟩ | ⟨h3_, h⟩
 rotate_left
 rcases zae h with ⟨h4_, h⟩ | ⟨h4_, h⟩
 rotate_left
 rcases zae h with ⟨h5_, h⟩ | ⟨h5_, h⟩
 rotate_left
 rotate_left
 all_goals
  obtain rfl := Option.some.inj h
  refine E.s fun n x => ?_
  simp -dsimp -implicitDefEqProofs only [go_sem, func79, f79, *, simprocAttr]
theorem zpK {kk : Nat} {a : Int} {b : Int} {r : Int} (h : zhP kk a b = some r) : Ev cfg 120 [(.int .i64 a), (.int .i64 b)] (.int .i64 r) := by
 unfold zhP at h
 have E := evT
 have E := E.and (zmf a)
 have E := E.and (zmf b)
 rcases zae h with ⟨h1_, h⟩ | ⟨h1_, h⟩
 rcases zae h with ⟨h2_, h⟩ | ⟨h2_, h⟩
 rotate_left
 rotate_left
 rcases zae h with ⟨h3_, h⟩ | ⟨h3_, h⟩
 rotate_left
 rcases zae h with ⟨h4_, h⟩ | ⟨h4_, h⟩
 rotate_left
 rcases zae h with ⟨h5_, h⟩ | ⟨h5_, h⟩
 rotate_left
 rotate_left
 all_goals
  obtain rfl := Option.some.inj h
  refine E.s fun n x => ?_
  simp -dsimp -implicitDefEqProofs only [go_sem, func120, f120, *, simprocAttr]
theorem zdm (a : Int) (b : Int) : Ev cfg 79 [(.int .i64 a), (.int .i64 b)] (.int .i64 (ziw a b)) := zrF (zjL 0 a b)
theorem zkL (a : Int) (b : Int) : Ev cfg 120 [(.int .i64 a), (.int .i64 b)] (.int .i64 (ziw a b)) := zpK (znC 0 a b)
def zgS (c1 : Sl Int) (c2 : Int) (K : Ex → St → Option Res) (R : Option Res) : Out (Int) (Int) → Prop
 | .ret r => ∀ (e : Env) (m : Mem), e 2 = (.int .i64 r) → K .ret ⟨e, m⟩ = R
 | .done q => ∀ (e : Env) (m : Mem), e 3 = (.int .i64 0) → K (.exit 0) ⟨e, m⟩ = R
noncomputable def ztX : Code := zb4 f78 [1, 1, 0, 1, 0, 0]
theorem zoh {c1 : Sl Int} {c2 : Int} {kk : Nat} : ∀ {k : Nat} {s3 : Int} {out : Out (Int) (Int)}, zdv c1 c2 kk k s3 = some out → ∃ N, ∀ n, N ≤ n → ∀ k, N ≤ k → ∀ (e : Env) (m : Mem), e 3 = (.int .i64 0) → e 6 = (dSl (cI .i64) c1) → e 7 = (.int .i64 c2) → e 8 = (.int .i64 s3) → ∀ (K : Ex → St → Option Res) (R : Option Res), zgS c1 c2 K R out → zc0 (zbX cfg (dfn cfg n) n ztX) K k ⟨e, m⟩ = R := by
 intro k
 induction k with
 | zero => intro s3 out h; cases h
 | succ k ih => ?_
 intro s3 out h
 have ih := fun x0 {out} => @ih x0 out
 unfold zdv at h
 have E := evT
 rcases zae h with ⟨h1_, h⟩ | ⟨h1_, h⟩
 obtain ⟨y4, h2_, h⟩ := zaa h
 obtain ⟨_, h3_⟩ := zbK h2_
 have h3_ := zbs h3_ (cI .i64)
 rcases zae h with ⟨h4_, h⟩ | ⟨h4_, h⟩
 rotate_left
 rotate_left
 rotate_left
 all_goals
  first | (obtain rfl := Option.some.inj h; refine E.l fun n k x => ?_) | refine E.c (ih _ h) fun n k x I => ?_
  intro e m i0 i1 i2 i3 K R hK
  rw [zaB]
  (conv => lhs; arg 4; whnf)
  first | (simp -dsimp -implicitDefEqProofs only [go_sem, *, simprocAttr]; simp only [zgS] at hK; refine hK _ _ ?_; simp -dsimp -implicitDefEqProofs only [go_sem, *, simprocAttr]) | (simp -dsimp -implicitDefEqProofs only [go_sem, *, simprocAttr]; refine zai (I.1 _ _ ?_ ?_ ?_ ?_ _ _ hK); (iterate 4 (simp -dsimp -implicitDefEqProofs only [go_sem, *, simprocAttr]))) | (simp -dsimp -implicitDefEqProofs only [go_sem, *, simprocAttr]; simp only [zgS] at hK; refine hK _ _ ?_; simp -dsimp -implicitDefEqProofs only [go_sem, *, simprocAttr])
theorem zxR {kk : Nat} {a : (Sl Int)} {r : Int} (h : zli kk a = some r) : Ev cfg 78 [(dSl (cI .i64) a)] (.int .i64 r) := by
 unfold zli at h
 have E := evT
 rcases zbj h with ⟨r7_, o6_, h⟩ | ⟨q5, o6_, h⟩
 obtain ⟨_, l5_, E⟩ := E.lp (zoh o6_)
 rotate_left
 obtain ⟨_, l8_, E⟩ := E.lp (zoh o6_)
 rotate_left
 all_goals
  obtain rfl := Option.some.inj h
  refine E.s fun n x => ?_
  first | (have := l5_; simp -dsimp -implicitDefEqProofs only [go_sem, func78, f78, *, simprocAttr]; refine zai (l5_.1 n (by omega) _ _ ?_ ?_ ?_ ?_ _ _ ?_); (iterate 4 (simp -dsimp -implicitDefEqProofs only [go_sem, *, simprocAttr])); simp only [zgS]; intro e m i0; simp -dsimp -implicitDefEqProofs only [go_sem, func78, f78, *, simprocAttr]) | (have := l8_; simp -dsimp -implicitDefEqProofs only [go_sem, func78, f78, *, simprocAttr]; refine zai (l8_.1 n (by omega) _ _ ?_ ?_ ?_ ?_ _ _ ?_); (iterate 4 (simp -dsimp -implicitDefEqProofs only [go_sem, *, simprocAttr])); simp only [zgS]; intro e m i0; simp -dsimp -implicitDefEqProofs only [go_sem, func78, f78, *, simprocAttr])
theorem zjj (a : (Sl Int)) (h : a.l.length < 100) : Ev cfg 78 [(dSl (cI .i64) a)] (.int .i64 (orL a)) := zxR (ztT 0 a h)
theorem ztO {kk : Nat} {a : Val} {b : Val} {r : Int} (h : zim kk a b = some r) : Ev cfg 84 [(.agg (zfR a)), (.agg (zfR b))] (.int .i64 r) := by
 unfold zim at h
 have E := evT
 have E := E.and (zdm a.kind b.kind)
 have E := E.and (zkL a.int b.int)
 have e1_ := zw0 a.text b.text
 obtain ⟨_, h2_, h⟩ := zaa h
 have E := E.and (zjj (Sl.of [(ziw a.kind b.kind), (ziw a.int b.int), (zDp a.text b.text)]) (zah h2_))
 obtain rfl := Option.some.inj h
 refine E.s fun n x => ?_
 (try simp -dsimp -implicitDefEqProofs only [go_sem, simprocAttr] at x)
 simp -dsimp -implicitDefEqProofs only [go_sem, func84, f84, *, simprocAttr]
theorem zon (a : Val) (b : Val) : Ev cfg 84 [(.agg (zfR a)), (.agg (zfR b))] (.int .i64 (zkt a b)) := ztO (zqP 0 a b)
abbrev zzh (sz : Nat) : Prop := (∀ (a : (Sl zam)) (b : (Sl zam)), 8 * (zal a.l + zal b.l) + 7 < sz → Ev cfg 81 [(dSl zau a), (dSl zau b)] (.int .i64 (zgM a b))) ∧ (∀ (a : (Sl zam)) (b : (Sl zam)), 8 * (zal a.l + zal b.l) + 6 < sz → Ev cfg 118 [(dSl zau a), (dSl zau b), (.fn (.func 119) [] [])] (.int .i64 (zgM a b))) ∧ (∀ (a : zam) (b : zam), 8 * (zcY a + zcY b) + 5 < sz → Ev cfg 119 [(.agg (zau a)), (.agg (zau b))] (.int .i64 (zhL a b))) ∧ (∀ (a : zam) (b : zam), 8 * (zcY a + zcY b) + 4 < sz → Ev cfg 43 [(.agg (zau a)), (.agg (zau b))] (.int .i64 (zd6 a b))) ∧ (∀ (a : (Sl zaj)) (b : (Sl zaj)), 8 * (za1 a.l + za1 b.l) + 7 < sz → Ev cfg 76 [(dSl zaP a), (dSl zaP b), (.fn (.func 77) [] [])] (.int .i64 (zf3 a b))) ∧ (∀ (a : zaj) (b : zaj), 8 * (zds a + zds b) + 5 < sz → Ev cfg 77 [(.agg (zaP a)), (.agg (zaP b))] (.int .i64 (zeE a b))) ∧ (∀ (a : zap) (b : zap), 8 * (zdp a + zdp b) + 7 < sz → Ev cfg 45 [(.agg (zcB a)), (.agg (zcB b))] (.int .i64 (zf4 a b))) ∧ (∀ (a : (Sl (Sl zam))) (b : (Sl (Sl zam))), 8 * (zdq a.l + zdq b.l) + 6 < sz → Ev cfg 80 [(dSl (cSl zau) a), (dSl (cSl zau) b), (.fn (.func 81) [] [])] (.int .i64 (zmP a b))) ∧ (∀ (a : (Sl zaf)) (b : (Sl zaf)), 8 * (zbB a.l + zbB b.l) + 6 < sz → Ev cfg 82 [(dSl zao a), (dSl zao b), (.fn (.func 83) [] [])] (.int .i64 (zgL a b))) ∧ (∀ (a : zaf) (b : zaf), 8 * (zeV a + zeV b) + 5 < sz → Ev cfg 83 [(.agg (zao a)), (.agg (zao b))] (.int .i64 (zeD a b)))
theorem zoT {kk : Nat} {a : (Sl zam)} {b : (Sl zam)} {sz : Nat} (hg : zzh sz) {r : Int} (h : zfA kk sz a b = some r) : Ev cfg 81 [(dSl zau a), (dSl zau b)] (.int .i64 r) := by
 have ⟨_, hCT, _, _, _, _, _, _, _, _⟩ := hg
 unfold zfA at h
 have E := evT
 obtain ⟨_, h1_, h⟩ := zaa h
 have E := E.and (hCT a b (zah h1_))
 obtain rfl := Option.some.inj h
 refine E.s fun n x => ?_
 simp -dsimp -implicitDefEqProofs only [go_sem, func81, f81, *, simprocAttr]
def zaU (c1 : Sl zam) (c2 : Sl zam) (c3 : Sl zam) (c4 : Int) (K : Ex → St → Option Res) (R : Option Res) : Out (Int) (Int) → Prop
 | .ret r => ∀ (e : Env) (m : Mem), e 6 = (.int .i64 r) → K .ret ⟨e, m⟩ = R
 | .done q => ∀ (e : Env) (m : Mem), e 0 = (dSl zau c1) → e 1 = (dSl zau c2) → K (.exit 0) ⟨e, m⟩ = R
noncomputable def zeB : Code := zb4 f118 [1, 0, 1, 0, 0]
theorem zce {c1 : Sl zam} {c2 : Sl zam} {c3 : Sl zam} {c4 : Int} {sz : Nat} (hg : zzh sz) {kk : Nat} : ∀ {k : Nat} {s5 : Int} {out : Out (Int) (Int)}, zbk c1 c2 c3 c4 sz kk k s5 = some out → ∃ N, ∀ n, N ≤ n → ∀ k, N ≤ k → ∀ (e : Env) (m : Mem), e 0 = (dSl zau c1) → e 1 = (dSl zau c2) → e 2 = (.fn (.func 119) [] []) → e 11 = (dSl zau c3) → e 12 = (.int .i64 c4) → e 13 = (.int .i64 s5) → ∀ (K : Ex → St → Option Res) (R : Option Res), zaU c1 c2 c3 c4 K R out → zc0 (zbX cfg (dfn cfg n) n zeB) K k ⟨e, m⟩ = R := by
 have ⟨_, _, hC1, _, _, _, _, _, _, _⟩ := hg
 intro k
 induction k with
 | zero => intro s5 out h; cases h
 | succ k ih => ?_
 intro s5 out h
 have ih := fun x0 {out} => @ih x0 out
 unfold zbk at h
 have E := evT
 rcases zae h with ⟨h1_, h⟩ | ⟨h1_, h⟩
 obtain ⟨y6, h2_, h⟩ := zaa h
 obtain ⟨_, h3_⟩ := zbK h2_
 have h3_ := zbs h3_ zau
 rcases zae h with ⟨h4_, h⟩ | ⟨h4_, h⟩
 rotate_left
 obtain ⟨y7, h5_, h⟩ := zaa h
 obtain ⟨_, h6_⟩ := zbK h5_
 have h6_ := zbs h6_ zau
 obtain ⟨_, h7_, h⟩ := zaa h
 have E := E.and (hC1 y6 y7 (zah h7_))
 rcases zae h with ⟨h8_, h⟩ | ⟨h8_, h⟩
 rotate_left
 rotate_left
 rotate_left
 all_goals
  first | (obtain rfl := Option.some.inj h; refine E.l fun n k x => ?_) | refine E.c (ih _ h) fun n k x I => ?_
  intro e m i0 i1 i2 i3 i4 i5 K R hK
  rw [zaB]
  (conv => lhs; arg 4; whnf)
  first | (simp -dsimp -implicitDefEqProofs only [go_sem, *, simprocAttr]; simp only [zaU] at hK; refine hK _ _ ?_; simp -dsimp -implicitDefEqProofs only [go_sem, *, simprocAttr]) | (simp -dsimp -implicitDefEqProofs only [go_sem, *, simprocAttr]; refine zai (I.1 _ _ ?_ ?_ ?_ ?_ ?_ ?_ _ _ hK); (iterate 6 (simp -dsimp -implicitDefEqProofs only [go_sem, *, simprocAttr]))) | (simp -dsimp -implicitDefEqProofs only [go_sem, *, simprocAttr]; simp only [zaU] at hK; refine hK _ _ ?_ ?_; (iterate 2 (simp -dsimp -implicitDefEqProofs only [go_sem, *, simprocAttr])))
theorem zeY {kk : Nat} {a : (Sl zam)} {b : (Sl zam)} {sz : Nat} (hg : zzh sz) {r : Int} (h : zbp kk sz a b = some r) : Ev cfg 118 [(dSl zau a), (dSl zau b), (.fn (.func 119) [] [])] (.int .i64 r) := by
 unfold zbp at h
 have E := evT
 rcases zbj h with ⟨r11_, o10_, h⟩ | ⟨q9, o10_, h⟩
 obtain ⟨_, l9_, E⟩ := E.lp (zce hg o10_)
 rotate_left
 obtain ⟨_, l12_, E⟩ := E.lp (zce hg o10_)
 rcases zae h with ⟨h13_, h⟩ | ⟨h13_, h⟩
 rotate_left
 rotate_left
 all_goals
  obtain rfl := Option.some.inj h
  refine E.s fun n x => ?_
  first | (have := l9_; simp -dsimp -implicitDefEqProofs only [go_sem, func118, f118, *, simprocAttr]; refine zai (l9_.1 n (by omega) _ _ ?_ ?_ ?_ ?_ ?_ ?_ _ _ ?_); (iterate 6 (simp -dsimp -implicitDefEqProofs only [go_sem, *, simprocAttr])); simp only [zaU]; intro e m i0; simp -dsimp -implicitDefEqProofs only [go_sem, func118, f118, *, simprocAttr]) | (have := l12_; simp -dsimp -implicitDefEqProofs only [go_sem, func118, f118, *, simprocAttr]; refine zai (l12_.1 n (by omega) _ _ ?_ ?_ ?_ ?_ ?_ ?_ _ _ ?_); (iterate 6 (simp -dsimp -implicitDefEqProofs only [go_sem, *, simprocAttr])); simp only [zaU]; intro e m i0 i1; simp -dsimp -implicitDefEqProofs only [go_sem, func118, f118, *, simprocAttr])
theorem znu {kk : Nat} {a : zam} {b : zam} {sz : Nat} (hg : zzh sz) {r : Int} (h : zeR kk sz a b = some r) : Ev cfg 119 [(.agg (zau a)), (.agg (zau b))] (.int .i64 r) := by
 have ⟨_, _, _, hL, _, _, _, _, _, _⟩ := hg
 unfold zeR at h
 have E := evT
 obtain ⟨_, h1_, h⟩ := zaa h
 have E := E.and (hL a b (zah h1_))
 have E := E.and (zkL a.coeff b.coeff)
 obtain ⟨_, h2_, h⟩ := zaa h
 have E := E.and (zjj (Sl.of [(zd6 a b), (ziw a.coeff b.coeff)]) (zah h2_))
 obtain rfl := Option.some.inj h
 refine E.s fun n x => ?_
 (try simp -dsimp -implicitDefEqProofs only [go_sem, simprocAttr] at x)
 simp -dsimp -implicitDefEqProofs only [go_sem, func119, f119, *, simprocAttr]
theorem zlx {kk : Nat} {a : zam} {b : zam} {sz : Nat} (hg : zzh sz) {r : Int} (h : zdz kk sz a b = some r) : Ev cfg 43 [(.agg (zau a)), (.agg (zau b))] (.int .i64 r) := by
 have ⟨_, _, _, _, hCF, _, _, _, _, _⟩ := hg
 unfold zdz at h
 have E := evT
 obtain ⟨_, h1_, h⟩ := zaa h
 have E := E.and (hCF a.factors b.factors (zah h1_))
 obtain rfl := Option.some.inj h
 refine E.s fun n x => ?_
 simp -dsimp -implicitDefEqProofs only [go_sem, func43, f43, *, simprocAttr]
def zaF (c1 : Sl zaj) (c2 : Sl zaj) (c3 : Sl zaj) (c4 : Int) (K : Ex → St → Option Res) (R : Option Res) : Out (Int) (Int) → Prop
 | .ret r => ∀ (e : Env) (m : Mem), e 6 = (.int .i64 r) → K .ret ⟨e, m⟩ = R
 | .done q => ∀ (e : Env) (m : Mem), e 0 = (dSl zaP c1) → e 1 = (dSl zaP c2) → K (.exit 0) ⟨e, m⟩ = R
noncomputable def zdo : Code := zb4 f76 [1, 0, 1, 0, 0]
theorem zbU {c1 : Sl zaj} {c2 : Sl zaj} {c3 : Sl zaj} {c4 : Int} {sz : Nat} (hg : zzh sz) {kk : Nat} : ∀ {k : Nat} {s5 : Int} {out : Out (Int) (Int)}, zaZ c1 c2 c3 c4 sz kk k s5 = some out → ∃ N, ∀ n, N ≤ n → ∀ k, N ≤ k → ∀ (e : Env) (m : Mem), e 0 = (dSl zaP c1) → e 1 = (dSl zaP c2) → e 2 = (.fn (.func 77) [] []) → e 11 = (dSl zaP c3) → e 12 = (.int .i64 c4) → e 13 = (.int .i64 s5) → ∀ (K : Ex → St → Option Res) (R : Option Res), zaF c1 c2 c3 c4 K R out → zc0 (zbX cfg (dfn cfg n) n zdo) K k ⟨e, m⟩ = R := by
 have ⟨_, _, _, _, _, hF, _, _, _, _⟩ := hg
 intro k
 induction k with
 | zero => intro s5 out h; cases h
 | succ k ih => ?_
 intro s5 out h
 have ih := fun x0 {out} => @ih x0 out
 unfold zaZ at h
 have E := evT
 rcases zae h with ⟨h1_, h⟩ | ⟨h1_, h⟩
 obtain ⟨y6, h2_, h⟩ := zaa h
 obtain ⟨_, h3_⟩ := zbK h2_
 have h3_ := zbs h3_ zaP
 rcases zae h with ⟨h4_, h⟩ | ⟨h4_, h⟩
 rotate_left
 obtain ⟨y7, h5_, h⟩ := zaa h
 obtain ⟨_, h6_⟩ := zbK h5_
 have h6_ := zbs h6_ zaP
 obtain ⟨_, h7_, h⟩ := zaa h
 have E := E.and (hF y6 y7 (zah h7_))
 rcases zae h with ⟨h8_, h⟩ | ⟨h8_, h⟩
 rotate_left
 rotate_left
 rotate_left
 all_goals
  first | (obtain rfl := Option.some.inj h; refine E.l fun n k x => ?_) | refine E.c (ih _ h) fun n k x I => ?_
  intro e m i0 i1 i2 i3 i4 i5 K R hK
  rw [zaB]
  (conv => lhs; arg 4; whnf)
  first | (simp -dsimp -implicitDefEqProofs only [go_sem, *, simprocAttr]; simp only [zaF] at hK; refine hK _ _ ?_; simp -dsimp -implicitDefEqProofs only [go_sem, *, simprocAttr]) | (simp -dsimp -implicitDefEqProofs only [go_sem, *, simprocAttr]; refine zai (I.1 _ _ ?_ ?_ ?_ ?_ ?_ ?_ _ _ hK); (iterate 6 (simp -dsimp -implicitDefEqProofs only [go_sem, *, simprocAttr]))) | (simp -dsimp -implicitDefEqProofs only [go_sem, *, simprocAttr]; simp only [zaF] at hK; refine hK _ _ ?_ ?_; (iterate 2 (simp -dsimp -implicitDefEqProofs only [go_sem, *, simprocAttr])))
theorem zdL {kk : Nat} {a : (Sl zaj)} {b : (Sl zaj)} {sz : Nat} (hg : zzh sz) {r : Int} (h : za6 kk sz a b = some r) : Ev cfg 76 [(dSl zaP a), (dSl zaP b), (.fn (.func 77) [] [])] (.int .i64 r) := by
 unfold za6 at h
 have E := evT
 rcases zbj h with ⟨r11_, o10_, h⟩ | ⟨q9, o10_, h⟩
 obtain ⟨_, l9_, E⟩ := E.lp (zbU hg o10_)
 rotate_left
 obtain ⟨_, l12_, E⟩ := E.lp (zbU hg o10_)
 rcases zae h with ⟨h13_, h⟩ | ⟨h13_, h⟩
 rotate_left
 rotate_left
 all_goals
  obtain rfl := Option.some.inj h
  refine E.s fun n x => ?_
  first | (have := l9_; simp -dsimp -implicitDefEqProofs only [go_sem, func76, f76, *, simprocAttr]; refine zai (l9_.1 n (by omega) _ _ ?_ ?_ ?_ ?_ ?_ ?_ _ _ ?_); (iterate 6 (simp -dsimp -implicitDefEqProofs only [go_sem, *, simprocAttr])); simp only [zaF]; intro e m i0; simp -dsimp -implicitDefEqProofs only [go_sem, func76, f76, *, simprocAttr]) | (have := l12_; simp -dsimp -implicitDefEqProofs only [go_sem, func76, f76, *, simprocAttr]; refine zai (l12_.1 n (by omega) _ _ ?_ ?_ ?_ ?_ ?_ ?_ _ _ ?_); (iterate 6 (simp -dsimp -implicitDefEqProofs only [go_sem, *, simprocAttr])); simp only [zaF]; intro e m i0 i1; simp -dsimp -implicitDefEqProofs only [go_sem, func76, f76, *, simprocAttr])
theorem zkw {kk : Nat} {a : zaj} {b : zaj} {sz : Nat} (hg : zzh sz) {r : Int} (h : zcU kk sz a b = some r) : Ev cfg 77 [(.agg (zaP a)), (.agg (zaP b))] (.int .i64 r) := by
 have ⟨_, _, _, _, _, _, hA, _, _, _⟩ := hg
 unfold zcU at h
 have E := evT
 obtain ⟨_, h1_, h⟩ := zaa h
 have E := E.and (hA a.atom b.atom (zah h1_))
 have E := E.and (zdm a.exp b.exp)
 obtain ⟨_, h2_, h⟩ := zaa h
 have E := E.and (zjj (Sl.of [(zf4 a.atom b.atom), (ziw a.exp b.exp)]) (zah h2_))
 obtain rfl := Option.some.inj h
 refine E.s fun n x => ?_
 (try simp -dsimp -implicitDefEqProofs only [go_sem, simprocAttr] at x)
 simp -dsimp -implicitDefEqProofs only [go_sem, func77, f77, *, simprocAttr]
theorem zlz {kk : Nat} {a : zap} {b : zap} {sz : Nat} (hg : zzh sz) {r : Int} (h : zdB kk sz a b = some r) : Ev cfg 45 [(.agg (zcB a)), (.agg (zcB b))] (.int .i64 r) := by
 have ⟨_, _, _, _, _, _, _, hCA, hCW, _⟩ := hg
 unfold zdB at h
 have E := evT
 have E := E.and (zdm a.kind b.kind)
 have E := E.and (zdm a.row.table b.row.table)
 have E := E.and (zdm a.row.seq b.row.seq)
 obtain ⟨_, h1_, h⟩ := zaa h
 have E := E.and (hCA a.args b.args (zah h1_))
 have E := E.and (zdm a.func b.func)
 obtain ⟨_, h2_, h⟩ := zaa h
 have E := E.and (hCW a.items b.items (zah h2_))
 have E := E.and (zdm a.op b.op)
 have E := E.and (zon a.bound b.bound)
 obtain ⟨_, h3_, h⟩ := zaa h
 have E := E.and (zjj (Sl.of [(ziw a.kind b.kind), (ziw a.row.table b.row.table), (ziw a.row.seq b.row.seq), (zmP a.args b.args), (ziw a.func b.func), (zgL a.items b.items), (ziw a.op b.op), (zkt a.bound b.bound)]) (zah h3_))
 obtain rfl := Option.some.inj h
 refine E.s fun n x => ?_
 (try simp -dsimp -implicitDefEqProofs only [go_sem, simprocAttr] at x)
 simp -dsimp -implicitDefEqProofs only [go_sem, func45, f45, *, simprocAttr]
def zaN (c1 : Sl (Sl zam)) (c2 : Sl (Sl zam)) (c3 : Sl (Sl zam)) (c4 : Int) (K : Ex → St → Option Res) (R : Option Res) : Out (Int) (Int) → Prop
 | .ret r => ∀ (e : Env) (m : Mem), e 6 = (.int .i64 r) → K .ret ⟨e, m⟩ = R
 | .done q => ∀ (e : Env) (m : Mem), e 0 = (dSl (cSl zau) c1) → e 1 = (dSl (cSl zau) c2) → K (.exit 0) ⟨e, m⟩ = R
noncomputable def zdU : Code := zb4 f80 [1, 0, 1, 0, 0]
theorem zb3 {c1 : Sl (Sl zam)} {c2 : Sl (Sl zam)} {c3 : Sl (Sl zam)} {c4 : Int} {sz : Nat} (hg : zzh sz) {kk : Nat} : ∀ {k : Nat} {s5 : Int} {out : Out (Int) (Int)}, za7 c1 c2 c3 c4 sz kk k s5 = some out → ∃ N, ∀ n, N ≤ n → ∀ k, N ≤ k → ∀ (e : Env) (m : Mem), e 0 = (dSl (cSl zau) c1) → e 1 = (dSl (cSl zau) c2) → e 2 = (.fn (.func 81) [] []) → e 11 = (dSl (cSl zau) c3) → e 12 = (.int .i64 c4) → e 13 = (.int .i64 s5) → ∀ (K : Ex → St → Option Res) (R : Option Res), zaN c1 c2 c3 c4 K R out → zc0 (zbX cfg (dfn cfg n) n zdU) K k ⟨e, m⟩ = R := by
 have ⟨hC, _, _, _, _, _, _, _, _, _⟩ := hg
 intro k
 induction k with
 | zero => intro s5 out h; cases h
 | succ k ih => ?_
 intro s5 out h
 have ih := fun x0 {out} => @ih x0 out
 unfold za7 at h
 have E := evT
 rcases zae h with ⟨h1_, h⟩ | ⟨h1_, h⟩
 obtain ⟨y6, h2_, h⟩ := zaa h
 obtain ⟨_, h3_⟩ := zbK h2_
 have h3_ := zbs h3_ (cSl zau)
 rcases zae h with ⟨h4_, h⟩ | ⟨h4_, h⟩
 rotate_left
 obtain ⟨y7, h5_, h⟩ := zaa h
 obtain ⟨_, h6_⟩ := zbK h5_
 have h6_ := zbs h6_ (cSl zau)
 obtain ⟨_, h7_, h⟩ := zaa h
 have E := E.and (hC y6 y7 (zah h7_))
 rcases zae h with ⟨h8_, h⟩ | ⟨h8_, h⟩
 rotate_left
 rotate_left
 rotate_left
 all_goals
  first | (obtain rfl := Option.some.inj h; refine E.l fun n k x => ?_) | refine E.c (ih _ h) fun n k x I => ?_
  intro e m i0 i1 i2 i3 i4 i5 K R hK
  rw [zaB]
  (conv => lhs; arg 4; whnf)
  first | (simp -dsimp -implicitDefEqProofs only [go_sem, *, simprocAttr]; simp only [zaN] at hK; refine hK _ _ ?_; simp -dsimp -implicitDefEqProofs only [go_sem, *, simprocAttr]) | (simp -dsimp -implicitDefEqProofs only [go_sem, *, simprocAttr]; refine zai (I.1 _ _ ?_ ?_ ?_ ?_ ?_ ?_ _ _ hK); (iterate 6 (simp -dsimp -implicitDefEqProofs only [go_sem, *, simprocAttr]))) | (simp -dsimp -implicitDefEqProofs only [go_sem, *, simprocAttr]; simp only [zaN] at hK; refine hK _ _ ?_ ?_; (iterate 2 (simp -dsimp -implicitDefEqProofs only [go_sem, *, simprocAttr])))
theorem zem {kk : Nat} {a : (Sl (Sl zam))} {b : (Sl (Sl zam))} {sz : Nat} (hg : zzh sz) {r : Int} (h : zbi kk sz a b = some r) : Ev cfg 80 [(dSl (cSl zau) a), (dSl (cSl zau) b), (.fn (.func 81) [] [])] (.int .i64 r) := by
 unfold zbi at h
 have E := evT
 rcases zbj h with ⟨r11_, o10_, h⟩ | ⟨q9, o10_, h⟩
 obtain ⟨_, l9_, E⟩ := E.lp (zb3 hg o10_)
 rotate_left
 obtain ⟨_, l12_, E⟩ := E.lp (zb3 hg o10_)
 rcases zae h with ⟨h13_, h⟩ | ⟨h13_, h⟩
 rotate_left
 rotate_left
 all_goals
  obtain rfl := Option.some.inj h
  refine E.s fun n x => ?_
  first | (have := l9_; simp -dsimp -implicitDefEqProofs only [go_sem, func80, f80, *, simprocAttr]; refine zai (l9_.1 n (by omega) _ _ ?_ ?_ ?_ ?_ ?_ ?_ _ _ ?_); (iterate 6 (simp -dsimp -implicitDefEqProofs only [go_sem, *, simprocAttr])); simp only [zaN]; intro e m i0; simp -dsimp -implicitDefEqProofs only [go_sem, func80, f80, *, simprocAttr]) | (have := l12_; simp -dsimp -implicitDefEqProofs only [go_sem, func80, f80, *, simprocAttr]; refine zai (l12_.1 n (by omega) _ _ ?_ ?_ ?_ ?_ ?_ ?_ _ _ ?_); (iterate 6 (simp -dsimp -implicitDefEqProofs only [go_sem, *, simprocAttr])); simp only [zaN]; intro e m i0 i1; simp -dsimp -implicitDefEqProofs only [go_sem, func80, f80, *, simprocAttr])
def zaE (c1 : Sl zaf) (c2 : Sl zaf) (c3 : Sl zaf) (c4 : Int) (K : Ex → St → Option Res) (R : Option Res) : Out (Int) (Int) → Prop
 | .ret r => ∀ (e : Env) (m : Mem), e 6 = (.int .i64 r) → K .ret ⟨e, m⟩ = R
 | .done q => ∀ (e : Env) (m : Mem), e 0 = (dSl zao c1) → e 1 = (dSl zao c2) → K (.exit 0) ⟨e, m⟩ = R
noncomputable def zdn : Code := zb4 f82 [1, 0, 1, 0, 0]
theorem zbT {c1 : Sl zaf} {c2 : Sl zaf} {c3 : Sl zaf} {c4 : Int} {sz : Nat} (hg : zzh sz) {kk : Nat} : ∀ {k : Nat} {s5 : Int} {out : Out (Int) (Int)}, zaY c1 c2 c3 c4 sz kk k s5 = some out → ∃ N, ∀ n, N ≤ n → ∀ k, N ≤ k → ∀ (e : Env) (m : Mem), e 0 = (dSl zao c1) → e 1 = (dSl zao c2) → e 2 = (.fn (.func 83) [] []) → e 11 = (dSl zao c3) → e 12 = (.int .i64 c4) → e 13 = (.int .i64 s5) → ∀ (K : Ex → St → Option Res) (R : Option Res), zaE c1 c2 c3 c4 K R out → zc0 (zbX cfg (dfn cfg n) n zdn) K k ⟨e, m⟩ = R := by
 have ⟨_, _, _, _, _, _, _, _, _, hI⟩ := hg
 intro k
 induction k with
 | zero => intro s5 out h; cases h
 | succ k ih => ?_
 intro s5 out h
 have ih := fun x0 {out} => @ih x0 out
 unfold zaY at h
 have E := evT
 rcases zae h with ⟨h1_, h⟩ | ⟨h1_, h⟩
 obtain ⟨y6, h2_, h⟩ := zaa h
 obtain ⟨_, h3_⟩ := zbK h2_
 have h3_ := zbs h3_ zao
 rcases zae h with ⟨h4_, h⟩ | ⟨h4_, h⟩
 rotate_left
 obtain ⟨y7, h5_, h⟩ := zaa h
 obtain ⟨_, h6_⟩ := zbK h5_
 have h6_ := zbs h6_ zao
 obtain ⟨_, h7_, h⟩ := zaa h
 have E := E.and (hI y6 y7 (zah h7_))
 rcases zae h with ⟨h8_, h⟩ | ⟨h8_, h⟩
 rotate_left
 rotate_left
 rotate_left
 all_goals
  first | (obtain rfl := Option.some.inj h; refine E.l fun n k x => ?_) | refine E.c (ih _ h) fun n k x I => ?_
  intro e m i0 i1 i2 i3 i4 i5 K R hK
  rw [zaB]
  (conv => lhs; arg 4; whnf)
  first | (simp -dsimp -implicitDefEqProofs only [go_sem, *, simprocAttr]; simp only [zaE] at hK; refine hK _ _ ?_; simp -dsimp -implicitDefEqProofs only [go_sem, *, simprocAttr]) | (simp -dsimp -implicitDefEqProofs only [go_sem, *, simprocAttr]; refine zai (I.1 _ _ ?_ ?_ ?_ ?_ ?_ ?_ _ _ hK); (iterate 6 (simp -dsimp -implicitDefEqProofs only [go_sem, *, simprocAttr]))) | (simp -dsimp -implicitDefEqProofs only [go_sem, *, simprocAttr]; simp only [zaE] at hK; refine hK _ _ ?_ ?_; (iterate 2 (simp -dsimp -implicitDefEqProofs only [go_sem, *, simprocAttr])))
theorem zdK {kk : Nat} {a : (Sl zaf)} {b : (Sl zaf)} {sz : Nat} (hg : zzh sz) {r : Int} (h : za5 kk sz a b = some r) : Ev cfg 82 [(dSl zao a), (dSl zao b), (.fn (.func 83) [] [])] (.int .i64 r) := by
 unfold za5 at h
 have E := evT
 rcases zbj h with ⟨r11_, o10_, h⟩ | ⟨q9, o10_, h⟩
 obtain ⟨_, l9_, E⟩ := E.lp (zbT hg o10_)
 rotate_left
 obtain ⟨_, l12_, E⟩ := E.lp (zbT hg o10_)
 rcases zae h with ⟨h13_, h⟩ | ⟨h13_, h⟩
 rotate_left
 rotate_left
 all_goals
  obtain rfl := Option.some.inj h
  refine E.s fun n x => ?_
  first | (have := l9_; simp -dsimp -implicitDefEqProofs only [go_sem, func82, f82, *, simprocAttr]; refine zai (l9_.1 n (by omega) _ _ ?_ ?_ ?_ ?_ ?_ ?_ _ _ ?_); (iterate 6 (simp -dsimp -implicitDefEqProofs only [go_sem, *, simprocAttr])); simp only [zaE]; intro e m i0; simp -dsimp -implicitDefEqProofs only [go_sem, func82, f82, *, simprocAttr]) | (have := l12_; simp -dsimp -implicitDefEqProofs only [go_sem, func82, f82, *, simprocAttr]; refine zai (l12_.1 n (by omega) _ _ ?_ ?_ ?_ ?_ ?_ ?_ _ _ ?_); (iterate 6 (simp -dsimp -implicitDefEqProofs only [go_sem, *, simprocAttr])); simp only [zaE]; intro e m i0 i1; simp -dsimp -implicitDefEqProofs only [go_sem, func82, f82, *, simprocAttr])
theorem zly {kk : Nat} {a : zaf} {b : zaf} {sz : Nat} (hg : zzh sz) {r : Int} (h : zdA kk sz a b = some r) : Ev cfg 83 [(.agg (zao a)), (.agg (zao b))] (.int .i64 r) := by
 have ⟨hC, _, _, _, _, _, _, _, _, _⟩ := hg
 unfold zdA at h
 have E := evT
 have E := E.and (zon a.value b.value)
 obtain ⟨_, h1_, h⟩ := zaa h
 have E := E.and (hC a.ann b.ann (zah h1_))
 obtain ⟨_, h2_, h⟩ := zaa h
 have E := E.and (zjj (Sl.of [(zkt a.value b.value), (zgM a.ann b.ann)]) (zah h2_))
 obtain rfl := Option.some.inj h
 refine E.s fun n x => ?_
 (try simp -dsimp -implicitDefEqProofs only [go_sem, simprocAttr] at x)
 simp -dsimp -implicitDefEqProofs only [go_sem, func83, f83, *, simprocAttr]
theorem zmS : ∀ s : Nat, s < big → zzh s := by
 intro s
 induction s with
 | zero => intro _; exact ⟨fun _ _ h => absurd h (by omega), fun _ _ h => absurd h (by omega), fun _ _ h => absurd h (by omega), fun _ _ h => absurd h (by omega), fun _ _ h => absurd h (by omega), fun _ _ h => absurd h (by omega), fun _ _ h => absurd h (by omega), fun _ _ h => absurd h (by omega), fun _ _ h => absurd h (by omega), fun _ _ h => absurd h (by omega)⟩
 | succ s ih =>
   intro hb
   have hg := ih (by omega)
   exact ⟨
    fun a b h => zoT (sz := s) hg (zm6 (kk := s + 1) (sz := s) (by omega) (by omega) (by omega)),
    fun a b h => zeY (sz := s) hg (zeA (kk := s + 1) (sz := s) (by omega) (by omega) (by omega)),
    fun a b h => znu (sz := s) hg (zlM (kk := s + 1) (sz := s) (by omega) (by omega) (by omega)),
    fun a b h => zlx (sz := s) hg (zj7 (kk := s + 1) (sz := s) (by omega) (by omega) (by omega)),
    fun a b h => zdL (sz := s) hg (zdl (kk := s + 1) (sz := s) (by omega) (by omega) (by omega)),
    fun a b h => zkw (sz := s) hg (zji (kk := s + 1) (sz := s) (by omega) (by omega) (by omega)),
    fun a b h => zlz (sz := s) hg (zj9 (kk := s + 1) (sz := s) (by omega) (by omega) (by omega)),
    fun a b h => zem (sz := s) hg (zdQ (kk := s + 1) (sz := s) (by omega) (by omega) (by omega)),
    fun a b h => zdK (sz := s) hg (zdk (kk := s + 1) (sz := s) (by omega) (by omega) (by omega)),
    fun a b h => zly (sz := s) hg (zj8 (kk := s + 1) (sz := s) (by omega) (by omega) (by omega))⟩
theorem zo6 (a : (Sl zam)) (b : (Sl zam)) (h : 8 * (zal a.l + zal b.l) + 7 < big - 1) : Ev cfg 81 [(dSl zau a), (dSl zau b)] (.int .i64 (zgM a b)) := (zmS (big - 1) (by unfold big; omega)).1 a b h
theorem zlO (a : zam) (b : zam) (h : 8 * (zcY a + zcY b) + 4 < big - 1) : Ev cfg 43 [(.agg (zau a)), (.agg (zau b))] (.int .i64 (zd6 a b)) := (zmS (big - 1) (by unfold big; omega)).2.2.2.1 a b h
theorem zlQ (a : zap) (b : zap) (h : 8 * (zdp a + zdp b) + 7 < big - 1) : Ev cfg 45 [(.agg (zcB a)), (.agg (zcB b))] (.int .i64 (zf4 a b)) := (zmS (big - 1) (by unfold big; omega)).2.2.2.2.2.2.1 a b h
theorem zlP (a : zaf) (b : zaf) (h : 8 * (zeV a + zeV b) + 5 < big - 1) : Ev cfg 83 [(.agg (zao a)), (.agg (zao b))] (.int .i64 (zeD a b)) := (zmS (big - 1) (by unfold big; omega)).2.2.2.2.2.2.2.2.2 a b h
end Go.Proofs.Tryz
set_option maxRecDepth 100000
set_option maxHeartbeats 4000000
set_option linter.unusedSimpArgs false
set_option linter.unusedVariables false
namespace Go.Proofs.Tryz
open Go.Ev
theorem zuq {kk : Nat} {a : zcc} {r : Bool} (h : zlH kk a = some r) : Ev cfg 87 [(.agg (ze6 a))] (.bool r) := by
 unfold zlH at h
 have E := evT
 rcases Bool.eq_false_or_eq_true ((decide (1 ≤ a.table))) with h1_ | h1_
 rotate_left
 rotate_left
 all_goals
  obtain rfl := Option.some.inj h
  refine E.s fun n x => ?_
  simp -dsimp -implicitDefEqProofs only [go_sem, func87, f87, *, simprocAttr]
theorem zpp (a : zcc) : Ev cfg 87 [(.agg (ze6 a))] (.bool (zhr a)) := zuq (zrM 0 a)
theorem zwm {kk : Nat} {a : Val} {r : Bool} (h : zj3 kk a = some r) : Ev cfg 19 [(.agg (zfR a))] (.bool r) := by
 unfold zj3 at h
 have E := evT
 rcases zae h with ⟨h1_, h⟩ | ⟨h1_, h⟩
 rotate_left
 rcases zae h with ⟨h2_, h⟩ | ⟨h2_, h⟩
 rcases Bool.eq_false_or_eq_true ((a.int == 0)) with h3_ | h3_
 rotate_left
 rotate_left
 rcases zae h with ⟨h4_, h⟩ | ⟨h4_, h⟩
 rcases Bool.eq_false_or_eq_true ((a.int == 0)) with h5_ | h5_
 rotate_left
 rcases Bool.eq_false_or_eq_true ((a.int == 1)) with h6_ | h6_
 rotate_left
 rotate_left
 rotate_left
 all_goals
  obtain rfl := Option.some.inj h
  refine E.s fun n x => ?_
  simp -dsimp -implicitDefEqProofs only [go_sem, func19, f19, *, simprocAttr]
theorem zhk (a : Val) : Ev cfg 19 [(.agg (zfR a))] (.bool (zbb a)) := zwm (zst 0 a)
theorem zmX {kk : Nat} {a : zap} {r : Bool} (h : zgb kk a = some r) : Ev cfg 44 [(.agg (zcB a))] (.bool r) := by
 unfold zgb at h
 have E := evT
 rcases Bool.eq_false_or_eq_true ((a.kind == 3)) with h1_ | h1_
 rotate_left
 rotate_left
 all_goals
  obtain rfl := Option.some.inj h
  refine E.s fun n x => ?_
  simp -dsimp -implicitDefEqProofs only [go_sem, func44, f44, *, simprocAttr]
theorem zir (a : zap) : Ev cfg 44 [(.agg (zcB a))] (.bool (zrf a)) := zmX (zkY 0 a)
theorem zmW {kk : Nat} {a : (Sl zam)} {r : Bool} (h : zes kk a = some r) : Ev cfg 89 [(dSl zau a)] (.bool r) := by
 unfold zes at h
 have E := evT
 rcases zae h with ⟨h1_, h⟩ | ⟨h1_, h⟩
 obtain ⟨y1, h2_, h⟩ := zaa h
 have h2_ := zbs h2_ zau
 rotate_left
 rotate_left
 all_goals
  obtain rfl := Option.some.inj h
  refine E.s fun n x => ?_
  simp -dsimp -implicitDefEqProofs only [go_sem, func89, f89, *, simprocAttr]
theorem zm8 (a : (Sl zam)) : Ev cfg 89 [(dSl zau a)] (.bool (zgI a)) := zmW (zkX 0 a)
theorem zpM {kk : Nat} {a : (Sl zam)} {r : Bool} (h : zga kk a = some r) : Ev cfg 90 [(dSl zau a)] (.bool r) := by
 unfold zga at h
 have E := evT
 rcases zae h with ⟨h1_, h⟩ | ⟨h1_, h⟩
 have b2_ := zar h1_
 obtain ⟨y1, h3_, h⟩ := zaa h
 have h3_ := zbs h3_ zau
 rcases zae h with ⟨h4_, h⟩ | ⟨h4_, h⟩
 have b5_ := zar h4_
 rcases zae h with ⟨h6_, h⟩ | ⟨h6_, h⟩
 rotate_left
 obtain ⟨y2, h7_, h⟩ := zaa h
 have h7_ := zbs h7_ zaP
 have E := E.and (zir y2.atom)
 rcases Bool.eq_false_or_eq_true ((y2.exp == 1)) with h8_ | h8_
 rcases Bool.eq_false_or_eq_true ((y2.atom.kind == 2)) with h9_ | h9_
 rotate_left
 rotate_left
 rcases Bool.eq_false_or_eq_true ((y2.atom.kind == 2)) with h10_ | h10_
 rotate_left
 rotate_left
 have b11_ := zan h4_
 rotate_left
 have b12_ := zan h1_
 rotate_left
 all_goals
  obtain rfl := Option.some.inj h
  refine E.s fun n x => ?_
  simp -dsimp -implicitDefEqProofs only [go_sem, func90, f90, *, simprocAttr]
theorem zpU (a : (Sl zam)) : Ev cfg 90 [(dSl zau a)] (.bool (znX a)) := zpM (znE 0 a)
def zfu (c29 : Sl zam) (c30 : Int) (c31 : Int) (c32 : Sl zaj) (c33 : Int) (c34 : Int) (c35 : Sl zaf) (c36 : Int) (K : Ex → St → Option Res) (R : Option Res) : Out (Int) (Int × Int) → Prop
 | .ret r => ∀ (e : Env) (m : Mem), e 2 = (.int .i64 r) → K .ret ⟨e, m⟩ = R
 | .done q => ∀ (e : Env) (m : Mem), e 3 = (.int .i64 q.1) → e 12 = (dSl zau c29) → e 13 = (.int .i64 c30) → e 14 = (.int .i64 c31) → e 25 = (dSl zaP c32) → e 26 = (.int .i64 c33) → e 27 = (.int .i64 c34) → K (.exit 6) ⟨e, m⟩ = R
noncomputable def zpa : Code := zb4 f71 [1, 1, 0, 1, 0, 0, 1, 1, 0, 0, 1, 1, 1, 0, 0, 1, 1, 0, 0, 1, 1, 1, 0, 0]
abbrev zIE (sz : Nat) : Prop := (∀ (a : (Sl zam)), zal a.l < sz → Ev cfg 71 [(dSl zau a)] (.int .i64 (zs0 a)))
theorem zjH {c29 : Sl zam} {c30 : Int} {c31 : Int} {c32 : Sl zaj} {c33 : Int} {c34 : Int} {c35 : Sl zaf} {c36 : Int} {sz : Nat} (hg : zIE sz) {kk : Nat} : ∀ {k : Nat} {s28 : Int} {s37 : Int} {out : Out (Int) (Int × Int)}, zch c29 c30 c31 c32 c33 c34 c35 c36 sz kk k s28 s37 = some out → ∃ N, ∀ n, N ≤ n → ∀ k, N ≤ k → ∀ (e : Env) (m : Mem), e 3 = (.int .i64 s28) → e 12 = (dSl zau c29) → e 13 = (.int .i64 c30) → e 14 = (.int .i64 c31) → e 25 = (dSl zaP c32) → e 26 = (.int .i64 c33) → e 27 = (.int .i64 c34) → e 46 = (dSl zao c35) → e 47 = (.int .i64 c36) → e 48 = (.int .i64 s37) → ∀ (K : Ex → St → Option Res) (R : Option Res), zfu c29 c30 c31 c32 c33 c34 c35 c36 K R out → zc0 (zbX cfg (dfn cfg n) n zpa) K k ⟨e, m⟩ = R := by
 have hS := hg
 intro k
 induction k with
 | zero => intro s28 s37 out h; cases h
 | succ k ih => ?_
 intro s28 s37 out h
 have ih := fun x0 x1 {out} => @ih x0 x1 out
 unfold zch at h
 have E := evT
 rcases zae h with ⟨h1_, h⟩ | ⟨h1_, h⟩
 obtain ⟨y38, h2_, h⟩ := zaa h
 obtain ⟨_, h3_⟩ := zbK h2_
 have h3_ := zbs h3_ zao
 obtain ⟨_, h4_, h⟩ := zaa h
 have E := E.and (hS y38.ann (zah h4_))
 rotate_left
 rotate_left
 all_goals
  first | (obtain rfl := Option.some.inj h; refine E.l fun n k x => ?_) | refine E.c (ih _ _ h) fun n k x I => ?_
  intro e m i0 i1 i2 i3 i4 i5 i6 i7 i8 i9 K R hK
  rw [zaB]
  (conv => lhs; arg 4; whnf)
  first | (simp -dsimp -implicitDefEqProofs only [go_sem, *, simprocAttr]; refine zai (I.1 _ _ ?_ ?_ ?_ ?_ ?_ ?_ ?_ ?_ ?_ ?_ _ _ hK); (iterate 10 (simp -dsimp -implicitDefEqProofs only [go_sem, *, simprocAttr]))) | (simp -dsimp -implicitDefEqProofs only [go_sem, *, simprocAttr]; simp only [zfu] at hK; refine hK _ _ ?_ ?_ ?_ ?_ ?_ ?_ ?_; (iterate 7 (simp -dsimp -implicitDefEqProofs only [go_sem, *, simprocAttr])))
def zfv (c15 : Sl zam) (c16 : Int) (c17 : Int) (c18 : Sl zaj) (c19 : Int) (c20 : Int) (c21 : Sl (Sl zam)) (c22 : Int) (c24 : zaj) (K : Ex → St → Option Res) (R : Option Res) : Out (Int) (Int × Int) → Prop
 | .ret r => ∀ (e : Env) (m : Mem), e 2 = (.int .i64 r) → K .ret ⟨e, m⟩ = R
 | .done q => ∀ (e : Env) (m : Mem), e 3 = (.int .i64 q.1) → zcS (e 7) m 7 11 (zaP c24) → e 12 = (dSl zau c15) → e 13 = (.int .i64 c16) → e 14 = (.int .i64 c17) → e 25 = (dSl zaP c18) → e 26 = (.int .i64 c19) → e 27 = (.int .i64 c20) → K (.exit 4) ⟨e, m⟩ = R
noncomputable def zpb : Code := zb4 f71 [1, 1, 0, 1, 0, 0, 1, 1, 0, 0, 1, 1, 1, 0, 0, 1, 1, 0, 0, 1, 0, 1, 0, 0]
theorem zjI {c15 : Sl zam} {c16 : Int} {c17 : Int} {c18 : Sl zaj} {c19 : Int} {c20 : Int} {c21 : Sl (Sl zam)} {c22 : Int} {c24 : zaj} {sz : Nat} (hg : zIE sz) {kk : Nat} : ∀ {k : Nat} {s14 : Int} {s23 : Int} {out : Out (Int) (Int × Int)}, zci c15 c16 c17 c18 c19 c20 c21 c22 c24 sz kk k s14 s23 = some out → ∃ N, ∀ n, N ≤ n → ∀ k, N ≤ k → ∀ (e : Env) (m : Mem), e 3 = (.int .i64 s14) → zcS (e 7) m 7 11 (zaP c24) → e 12 = (dSl zau c15) → e 13 = (.int .i64 c16) → e 14 = (.int .i64 c17) → e 25 = (dSl zaP c18) → e 26 = (.int .i64 c19) → e 27 = (.int .i64 c20) → e 33 = (dSl (cSl zau) c21) → e 34 = (.int .i64 c22) → e 35 = (.int .i64 s23) → ∀ (K : Ex → St → Option Res) (R : Option Res), zfv c15 c16 c17 c18 c19 c20 c21 c22 c24 K R out → zc0 (zbX cfg (dfn cfg n) n zpb) K k ⟨e, m⟩ = R := by
 have hS := hg
 intro k
 induction k with
 | zero => intro s14 s23 out h; cases h
 | succ k ih => ?_
 intro s14 s23 out h
 have ih := fun x0 x1 {out} => @ih x0 x1 out
 unfold zci at h
 have E := evT
 rcases zae h with ⟨h5_, h⟩ | ⟨h5_, h⟩
 obtain ⟨y25, h6_, h⟩ := zaa h
 obtain ⟨_, h7_⟩ := zbK h6_
 have h7_ := zbs h7_ (cSl zau)
 obtain ⟨_, h8_, h⟩ := zaa h
 have E := E.and (hS y25 (zah h8_))
 rotate_left
 rotate_left
 all_goals
  first | (obtain rfl := Option.some.inj h; refine E.l fun n k x => ?_) | refine E.c (ih _ _ h) fun n k x I => ?_
  intro e m i0 i1 i2 i3 i4 i5 i6 i7 i8 i9 i10 K R hK
  obtain ⟨_, _, _⟩ := i1
  rw [zaB]
  (conv => lhs; arg 4; whnf)
  first | (simp -dsimp -implicitDefEqProofs only [go_sem, *, simprocAttr]; refine zai (I.1 _ _ ?_ ?_ ?_ ?_ ?_ ?_ ?_ ?_ ?_ ?_ ?_ _ _ hK); (iterate 11 (simp -dsimp -implicitDefEqProofs only [go_sem, *, simprocAttr]))) | (simp -dsimp -implicitDefEqProofs only [go_sem, *, simprocAttr]; simp only [zfv] at hK; refine hK _ _ ?_ ?_ ?_ ?_ ?_ ?_ ?_ ?_; (iterate 8 (simp -dsimp -implicitDefEqProofs only [go_sem, *, simprocAttr])))
def zcW (c7 : Sl zam) (c8 : Int) (c9 : Int) (c10 : Sl zaj) (c11 : Int) (K : Ex → St → Option Res) (R : Option Res) : Out (Int) (Int × Int) → Prop
 | .ret r => ∀ (e : Env) (m : Mem), e 2 = (.int .i64 r) → K .ret ⟨e, m⟩ = R
 | .done q => ∀ (e : Env) (m : Mem), e 3 = (.int .i64 q.1) → e 12 = (dSl zau c7) → e 13 = (.int .i64 c8) → e 14 = (.int .i64 c9) → K (.exit 2) ⟨e, m⟩ = R
noncomputable def zpc : Code := zb4 f71 [1, 1, 0, 1, 0, 0, 1, 1, 0, 0, 1, 1, 1, 0, 0]
theorem zjJ {c7 : Sl zam} {c8 : Int} {c9 : Int} {c10 : Sl zaj} {c11 : Int} {sz : Nat} (hg : zIE sz) {kk : Nat} : ∀ {k : Nat} {s6 : Int} {s12 : Int} {out : Out (Int) (Int × Int)}, zcj c7 c8 c9 c10 c11 sz kk k s6 s12 = some out → ∃ N, ∀ n, N ≤ n → ∀ k, N ≤ k → ∀ (e : Env) (m : Mem), e 3 = (.int .i64 s6) → e 12 = (dSl zau c7) → e 13 = (.int .i64 c8) → e 14 = (.int .i64 c9) → e 25 = (dSl zaP c10) → e 26 = (.int .i64 c11) → e 27 = (.int .i64 s12) → ∀ (K : Ex → St → Option Res) (R : Option Res), zcW c7 c8 c9 c10 c11 K R out → zc0 (zbX cfg (dfn cfg n) n zpc) K k ⟨e, m⟩ = R := by
 intro k
 induction k with
 | zero => intro s6 s12 out h; cases h
 | succ k ih => ?_
 intro s6 s12 out h
 have ih := fun x0 x1 {out} => @ih x0 x1 out
 unfold zcj at h
 have E := evT
 rcases zae h with ⟨h9_, h⟩ | ⟨h9_, h⟩
 obtain ⟨y13, h10_, h⟩ := zaa h
 obtain ⟨_, h11_⟩ := zbK h10_
 have h11_ := zbs h11_ zaP
 rcases zbj h with ⟨r14_, o13_, h⟩ | ⟨q27, o13_, h⟩
 obtain ⟨_, l12_, E⟩ := E.lp (zjI hg o13_)
 rotate_left
 obtain ⟨_, l15_, E⟩ := E.lp (zjI hg o13_)
 rcases zbj h with ⟨r18_, o17_, h⟩ | ⟨q40, o17_, h⟩
 obtain ⟨_, l16_, E⟩ := E.lp (zjH hg o17_)
 rotate_left
 obtain ⟨_, l19_, E⟩ := E.lp (zjH hg o17_)
 rotate_left
 rotate_left
 all_goals
  first | (obtain rfl := Option.some.inj h; refine E.l fun n k x => ?_) | refine E.c (ih _ _ h) fun n k x I => ?_
  intro e m i0 i1 i2 i3 i4 i5 i6 K R hK
  rw [zaB]
  (conv => lhs; arg 4; whnf)
  first | (have := l12_; simp -dsimp -implicitDefEqProofs only [go_sem, *, simprocAttr]; refine zai (l12_.1 n (by omega) _ _ ?_ ?_ ?_ ?_ ?_ ?_ ?_ ?_ ?_ ?_ ?_ _ _ ?_); (iterate 11 (simp -dsimp -implicitDefEqProofs only [go_sem, *, simprocAttr])); simp only [zfv]; intro e m i0; (try simp -dsimp -implicitDefEqProofs only [go_sem, *, simprocAttr]); simp only [zcW] at hK; refine hK _ _ ?_; simp -dsimp -implicitDefEqProofs only [go_sem, *, simprocAttr]) | (have := l15_; simp -dsimp -implicitDefEqProofs only [go_sem, *, simprocAttr]; refine zai (l15_.1 n (by omega) _ _ ?_ ?_ ?_ ?_ ?_ ?_ ?_ ?_ ?_ ?_ ?_ _ _ ?_); (iterate 11 (simp -dsimp -implicitDefEqProofs only [go_sem, *, simprocAttr])); simp only [zfv]; intro e m i0 i1 i2 i3 i4 i5 i6 i7; obtain ⟨_, _, _⟩ := i1; (first | (have := l16_; (try simp -dsimp -implicitDefEqProofs only [go_sem, *, simprocAttr]); refine zai (l16_.1 n (by omega) _ _ ?_ ?_ ?_ ?_ ?_ ?_ ?_ ?_ ?_ ?_ _ _ ?_); (iterate 10 (simp -dsimp -implicitDefEqProofs only [go_sem, *, simprocAttr])); simp only [zfu]; intro e m i0; (try simp -dsimp -implicitDefEqProofs only [go_sem, *, simprocAttr]); simp only [zcW] at hK; refine hK _ _ ?_; simp -dsimp -implicitDefEqProofs only [go_sem, *, simprocAttr]) | (have := l19_; (try simp -dsimp -implicitDefEqProofs only [go_sem, *, simprocAttr]); refine zai (l19_.1 n (by omega) _ _ ?_ ?_ ?_ ?_ ?_ ?_ ?_ ?_ ?_ ?_ _ _ ?_); (iterate 10 (simp -dsimp -implicitDefEqProofs only [go_sem, *, simprocAttr])); simp only [zfu]; intro e m i0 i1 i2 i3 i4 i5 i6; (try simp -dsimp -implicitDefEqProofs only [go_sem, *, simprocAttr]); refine zai (I.1 _ _ ?_ ?_ ?_ ?_ ?_ ?_ ?_ _ _ hK); (iterate 7 (simp -dsimp -implicitDefEqProofs only [go_sem, *, simprocAttr]))))) | ((try simp -dsimp -implicitDefEqProofs only [go_sem, *, simprocAttr]); simp only [zcW] at hK; refine hK _ _ ?_ ?_ ?_ ?_; (iterate 4 (simp -dsimp -implicitDefEqProofs only [go_sem, *, simprocAttr])))
def zec (c2 : Sl zam) (c3 : Int) (K : Ex → St → Option Res) (R : Option Res) : Out (Int) (Int × Int) → Prop
 | .ret r => ∀ (e : Env) (m : Mem), e 2 = (.int .i64 r) → K .ret ⟨e, m⟩ = R
 | .done q => ∀ (e : Env) (m : Mem), e 3 = (.int .i64 q.1) → K (.exit 0) ⟨e, m⟩ = R
noncomputable def zpd : Code := zb4 f71 [1, 1, 0, 1, 0, 0]
theorem zjK {c2 : Sl zam} {c3 : Int} {sz : Nat} (hg : zIE sz) {kk : Nat} : ∀ {k : Nat} {s1 : Int} {s4 : Int} {out : Out (Int) (Int × Int)}, zck c2 c3 sz kk k s1 s4 = some out → ∃ N, ∀ n, N ≤ n → ∀ k, N ≤ k → ∀ (e : Env) (m : Mem), e 3 = (.int .i64 s1) → e 12 = (dSl zau c2) → e 13 = (.int .i64 c3) → e 14 = (.int .i64 s4) → ∀ (K : Ex → St → Option Res) (R : Option Res), zec c2 c3 K R out → zc0 (zbX cfg (dfn cfg n) n zpd) K k ⟨e, m⟩ = R := by
 intro k
 induction k with
 | zero => intro s1 s4 out h; cases h
 | succ k ih => ?_
 intro s1 s4 out h
 have ih := fun x0 x1 {out} => @ih x0 x1 out
 unfold zck at h
 have E := evT
 rcases zae h with ⟨h20_, h⟩ | ⟨h20_, h⟩
 obtain ⟨y5, h21_, h⟩ := zaa h
 obtain ⟨_, h22_⟩ := zbK h21_
 have h22_ := zbs h22_ zau
 rcases zbj h with ⟨r25_, o24_, h⟩ | ⟨q41, o24_, h⟩
 obtain ⟨_, l23_, E⟩ := E.lp (zjJ hg o24_)
 rotate_left
 obtain ⟨_, l26_, E⟩ := E.lp (zjJ hg o24_)
 rotate_left
 rotate_left
 all_goals
  first | (obtain rfl := Option.some.inj h; refine E.l fun n k x => ?_) | refine E.c (ih _ _ h) fun n k x I => ?_
  intro e m i0 i1 i2 i3 K R hK
  rw [zaB]
  (conv => lhs; arg 4; whnf)
  first | (have := l23_; simp -dsimp -implicitDefEqProofs only [go_sem, *, simprocAttr]; refine zai (l23_.1 n (by omega) _ _ ?_ ?_ ?_ ?_ ?_ ?_ ?_ _ _ ?_); (iterate 7 (simp -dsimp -implicitDefEqProofs only [go_sem, *, simprocAttr])); simp only [zcW]; intro e m i0; (try simp -dsimp -implicitDefEqProofs only [go_sem, *, simprocAttr]); simp only [zec] at hK; refine hK _ _ ?_; simp -dsimp -implicitDefEqProofs only [go_sem, *, simprocAttr]) | (have := l26_; simp -dsimp -implicitDefEqProofs only [go_sem, *, simprocAttr]; refine zai (l26_.1 n (by omega) _ _ ?_ ?_ ?_ ?_ ?_ ?_ ?_ _ _ ?_); (iterate 7 (simp -dsimp -implicitDefEqProofs only [go_sem, *, simprocAttr])); simp only [zcW]; intro e m i0 i1 i2 i3; (try simp -dsimp -implicitDefEqProofs only [go_sem, *, simprocAttr]); refine zai (I.1 _ _ ?_ ?_ ?_ ?_ _ _ hK); (iterate 4 (simp -dsimp -implicitDefEqProofs only [go_sem, *, simprocAttr]))) | ((try simp -dsimp -implicitDefEqProofs only [go_sem, *, simprocAttr]); simp only [zec] at hK; refine hK _ _ ?_; simp -dsimp -implicitDefEqProofs only [go_sem, *, simprocAttr])
theorem zrH {kk : Nat} {a : (Sl zam)} {sz : Nat} (hg : zIE sz) {r : Int} (h : zhj kk sz a = some r) : Ev cfg 71 [(dSl zau a)] (.int .i64 r) := by
 unfold zhj at h
 have E := evT
 rcases zbj h with ⟨r29_, o28_, h⟩ | ⟨q42, o28_, h⟩
 obtain ⟨_, l27_, E⟩ := E.lp (zjK hg o28_)
 rotate_left
 obtain ⟨_, l30_, E⟩ := E.lp (zjK hg o28_)
 rotate_left
 all_goals
  obtain rfl := Option.some.inj h
  refine E.s fun n x => ?_
  first | (have := l27_; simp -dsimp -implicitDefEqProofs only [go_sem, func71, f71, *, simprocAttr]; refine zai (l27_.1 n (by omega) _ _ ?_ ?_ ?_ ?_ _ _ ?_); (iterate 4 (simp -dsimp -implicitDefEqProofs only [go_sem, *, simprocAttr])); simp only [zec]; intro e m i0; simp -dsimp -implicitDefEqProofs only [go_sem, func71, f71, *, simprocAttr]) | (have := l30_; simp -dsimp -implicitDefEqProofs only [go_sem, func71, f71, *, simprocAttr]; refine zai (l30_.1 n (by omega) _ _ ?_ ?_ ?_ ?_ _ _ ?_); (iterate 4 (simp -dsimp -implicitDefEqProofs only [go_sem, *, simprocAttr])); simp only [zec]; intro e m i0; simp -dsimp -implicitDefEqProofs only [go_sem, func71, f71, *, simprocAttr])
theorem zpH : ∀ s : Nat, s < big → zIE s := by
 intro s
 induction s with
 | zero => intro _; exact fun _ h => absurd h (by omega)
 | succ s ih =>
   intro hb
   have hg := ih (by omega)
   exact
    fun a h => zrH (sz := s) hg (zo1 (kk := s + 1) (sz := s) (by omega) (by omega) (by omega))
theorem zrQ (a : (Sl zam)) (h : zal a.l < big - 1) : Ev cfg 71 [(dSl zau a)] (.int .i64 (zs0 a)) := (zpH (big - 1) (by unfold big; omega)) a h
def zen (c29 : Int) (c31 : Sl zam) (c32 : Int) (c33 : Int) (c34 : Sl zaj) (c35 : Int) (c36 : Int) (c37 : Sl zaf) (c38 : Int) (K : Ex → St → Option Res) (R : Option Res) : Out (Int) (Int × Int) → Prop
 | .ret r => ∀ (e : Env) (m : Mem), e 2 = (.int .i64 r) → K .ret ⟨e, m⟩ = R
 | .done q => ∀ (e : Env) (m : Mem), e 3 = (.int .i64 c29) → e 8 = (.int .i64 q.1) → e 13 = (dSl zau c31) → e 14 = (.int .i64 c32) → e 15 = (.int .i64 c33) → e 20 = (dSl zaP c34) → e 21 = (.int .i64 c35) → e 22 = (.int .i64 c36) → K (.exit 6) ⟨e, m⟩ = R
noncomputable def zm9 : Code := zb4 f70 [1, 1, 0, 1, 0, 0, 1, 1, 0, 0, 1, 1, 0, 0, 1, 1, 0, 0, 1, 1, 1, 1, 0, 1, 0, 0]
abbrev zID (sz : Nat) : Prop := (∀ (a : (Sl zam)), zal a.l < sz → Ev cfg 70 [(dSl zau a)] (.int .i64 (zra a)))
theorem zid {c29 : Int} {c31 : Sl zam} {c32 : Int} {c33 : Int} {c34 : Sl zaj} {c35 : Int} {c36 : Int} {c37 : Sl zaf} {c38 : Int} {sz : Nat} (hg : zID sz) {kk : Nat} : ∀ {k : Nat} {s30 : Int} {s39 : Int} {out : Out (Int) (Int × Int)}, zbP c29 c31 c32 c33 c34 c35 c36 c37 c38 sz kk k s30 s39 = some out → ∃ N, ∀ n, N ≤ n → ∀ k, N ≤ k → ∀ (e : Env) (m : Mem), e 3 = (.int .i64 c29) → e 8 = (.int .i64 s30) → e 13 = (dSl zau c31) → e 14 = (.int .i64 c32) → e 15 = (.int .i64 c33) → e 20 = (dSl zaP c34) → e 21 = (.int .i64 c35) → e 22 = (.int .i64 c36) → e 45 = (dSl zao c37) → e 46 = (.int .i64 c38) → e 47 = (.int .i64 s39) → ∀ (K : Ex → St → Option Res) (R : Option Res), zen c29 c31 c32 c33 c34 c35 c36 c37 c38 K R out → zc0 (zbX cfg (dfn cfg n) n zm9) K k ⟨e, m⟩ = R := by
 have hN := hg
 intro k
 induction k with
 | zero => intro s30 s39 out h; cases h
 | succ k ih => ?_
 intro s30 s39 out h
 have ih := fun x0 x1 {out} => @ih x0 x1 out
 unfold zbP at h
 have E := evT
 rcases zae h with ⟨h1_, h⟩ | ⟨h1_, h⟩
 obtain ⟨y40, h2_, h⟩ := zaa h
 obtain ⟨_, h3_⟩ := zbK h2_
 have h3_ := zbs h3_ zao
 obtain ⟨_, h4_, h⟩ := zaa h
 have E := E.and (hN y40.ann (zah h4_))
 rotate_left
 rotate_left
 all_goals
  first | (obtain rfl := Option.some.inj h; refine E.l fun n k x => ?_) | refine E.c (ih _ _ h) fun n k x I => ?_
  intro e m i0 i1 i2 i3 i4 i5 i6 i7 i8 i9 i10 K R hK
  rw [zaB]
  (conv => lhs; arg 4; whnf)
  first | (simp -dsimp -implicitDefEqProofs only [go_sem, *, simprocAttr]; refine zai (I.1 _ _ ?_ ?_ ?_ ?_ ?_ ?_ ?_ ?_ ?_ ?_ ?_ _ _ hK); (iterate 11 (simp -dsimp -implicitDefEqProofs only [go_sem, *, simprocAttr]))) | (simp -dsimp -implicitDefEqProofs only [go_sem, *, simprocAttr]; simp only [zen] at hK; refine hK _ _ ?_ ?_ ?_ ?_ ?_ ?_ ?_ ?_; (iterate 8 (simp -dsimp -implicitDefEqProofs only [go_sem, *, simprocAttr])))
def zeo (c14 : Int) (c16 : Sl zam) (c17 : Int) (c18 : Int) (c19 : Sl zaj) (c20 : Int) (c21 : Int) (c22 : Sl (Sl zam)) (c23 : Int) (c25 : zaj) (K : Ex → St → Option Res) (R : Option Res) : Out (Int) (Int × Int) → Prop
 | .ret r => ∀ (e : Env) (m : Mem), e 2 = (.int .i64 r) → K .ret ⟨e, m⟩ = R
 | .done q => ∀ (e : Env) (m : Mem), e 3 = (.int .i64 c14) → zcS (e 7) m 7 11 (zaP c25) → e 8 = (.int .i64 q.1) → e 13 = (dSl zau c16) → e 14 = (.int .i64 c17) → e 15 = (.int .i64 c18) → e 20 = (dSl zaP c19) → e 21 = (.int .i64 c20) → e 22 = (.int .i64 c21) → K (.exit 4) ⟨e, m⟩ = R
noncomputable def zna : Code := zb4 f70 [1, 1, 0, 1, 0, 0, 1, 1, 0, 0, 1, 1, 0, 0, 1, 1, 0, 0, 1, 1, 1, 0, 1, 0, 0]
theorem zie {c14 : Int} {c16 : Sl zam} {c17 : Int} {c18 : Int} {c19 : Sl zaj} {c20 : Int} {c21 : Int} {c22 : Sl (Sl zam)} {c23 : Int} {c25 : zaj} {sz : Nat} (hg : zID sz) {kk : Nat} : ∀ {k : Nat} {s15 : Int} {s24 : Int} {out : Out (Int) (Int × Int)}, zbF c14 c16 c17 c18 c19 c20 c21 c22 c23 c25 sz kk k s15 s24 = some out → ∃ N, ∀ n, N ≤ n → ∀ k, N ≤ k → ∀ (e : Env) (m : Mem), e 3 = (.int .i64 c14) → zcS (e 7) m 7 11 (zaP c25) → e 8 = (.int .i64 s15) → e 13 = (dSl zau c16) → e 14 = (.int .i64 c17) → e 15 = (.int .i64 c18) → e 20 = (dSl zaP c19) → e 21 = (.int .i64 c20) → e 22 = (.int .i64 c21) → e 32 = (dSl (cSl zau) c22) → e 33 = (.int .i64 c23) → e 34 = (.int .i64 s24) → ∀ (K : Ex → St → Option Res) (R : Option Res), zeo c14 c16 c17 c18 c19 c20 c21 c22 c23 c25 K R out → zc0 (zbX cfg (dfn cfg n) n zna) K k ⟨e, m⟩ = R := by
 have hN := hg
 intro k
 induction k with
 | zero => intro s15 s24 out h; cases h
 | succ k ih => ?_
 intro s15 s24 out h
 have ih := fun x0 x1 {out} => @ih x0 x1 out
 unfold zbF at h
 have E := evT
 rcases zae h with ⟨h5_, h⟩ | ⟨h5_, h⟩
 obtain ⟨y26, h6_, h⟩ := zaa h
 obtain ⟨_, h7_⟩ := zbK h6_
 have h7_ := zbs h7_ (cSl zau)
 obtain ⟨_, h8_, h⟩ := zaa h
 have E := E.and (hN y26 (zah h8_))
 rotate_left
 rotate_left
 all_goals
  first | (obtain rfl := Option.some.inj h; refine E.l fun n k x => ?_) | refine E.c (ih _ _ h) fun n k x I => ?_
  intro e m i0 i1 i2 i3 i4 i5 i6 i7 i8 i9 i10 i11 K R hK
  obtain ⟨_, _, _⟩ := i1
  rw [zaB]
  (conv => lhs; arg 4; whnf)
  first | (simp -dsimp -implicitDefEqProofs only [go_sem, *, simprocAttr]; refine zai (I.1 _ _ ?_ ?_ ?_ ?_ ?_ ?_ ?_ ?_ ?_ ?_ ?_ ?_ _ _ hK); (iterate 12 (simp -dsimp -implicitDefEqProofs only [go_sem, *, simprocAttr]))) | (simp -dsimp -implicitDefEqProofs only [go_sem, *, simprocAttr]; simp only [zeo] at hK; refine hK _ _ ?_ ?_ ?_ ?_ ?_ ?_ ?_ ?_ ?_; (iterate 9 (simp -dsimp -implicitDefEqProofs only [go_sem, *, simprocAttr])))
def zco (c7 : Sl zam) (c8 : Int) (c9 : Int) (c10 : Sl zaj) (c11 : Int) (K : Ex → St → Option Res) (R : Option Res) : Out (Int) (Int × Int) → Prop
 | .ret r => ∀ (e : Env) (m : Mem), e 2 = (.int .i64 r) → K .ret ⟨e, m⟩ = R
 | .done q => ∀ (e : Env) (m : Mem), e 3 = (.int .i64 q.1) → e 13 = (dSl zau c7) → e 14 = (.int .i64 c8) → e 15 = (.int .i64 c9) → K (.exit 2) ⟨e, m⟩ = R
noncomputable def znb : Code := zb4 f70 [1, 1, 0, 1, 0, 0, 1, 1, 0, 0, 1, 1, 0, 0]
theorem zif {c7 : Sl zam} {c8 : Int} {c9 : Int} {c10 : Sl zaj} {c11 : Int} {sz : Nat} (hg : zID sz) {kk : Nat} : ∀ {k : Nat} {s6 : Int} {s12 : Int} {out : Out (Int) (Int × Int)}, zbG c7 c8 c9 c10 c11 sz kk k s6 s12 = some out → ∃ N, ∀ n, N ≤ n → ∀ k, N ≤ k → ∀ (e : Env) (m : Mem), e 3 = (.int .i64 s6) → e 13 = (dSl zau c7) → e 14 = (.int .i64 c8) → e 15 = (.int .i64 c9) → e 20 = (dSl zaP c10) → e 21 = (.int .i64 c11) → e 22 = (.int .i64 s12) → ∀ (K : Ex → St → Option Res) (R : Option Res), zco c7 c8 c9 c10 c11 K R out → zc0 (zbX cfg (dfn cfg n) n znb) K k ⟨e, m⟩ = R := by
 intro k
 induction k with
 | zero => intro s6 s12 out h; cases h
 | succ k ih => ?_
 intro s6 s12 out h
 have ih := fun x0 x1 {out} => @ih x0 x1 out
 unfold zbG at h
 have E := evT
 rcases zae h with ⟨h9_, h⟩ | ⟨h9_, h⟩
 obtain ⟨y13, h10_, h⟩ := zaa h
 obtain ⟨_, h11_⟩ := zbK h10_
 have h11_ := zbs h11_ zaP
 rcases zae h with ⟨h12_, h⟩ | ⟨h12_, h⟩
 rotate_left
 rcases zbj h with ⟨r15_, o14_, h⟩ | ⟨q28, o14_, h⟩
 obtain ⟨_, l13_, E⟩ := E.lp (zie hg o14_)
 rotate_left
 obtain ⟨_, l16_, E⟩ := E.lp (zie hg o14_)
 rcases zbj h with ⟨r19_, o18_, h⟩ | ⟨q42, o18_, h⟩
 obtain ⟨_, l17_, E⟩ := E.lp (zid hg o18_)
 rotate_left
 obtain ⟨_, l20_, E⟩ := E.lp (zid hg o18_)
 rotate_left
 rotate_left
 all_goals
  first | (obtain rfl := Option.some.inj h; refine E.l fun n k x => ?_) | refine E.c (ih _ _ h) fun n k x I => ?_
  intro e m i0 i1 i2 i3 i4 i5 i6 K R hK
  rw [zaB]
  (conv => lhs; arg 4; whnf)
  first | (have := l13_; simp -dsimp -implicitDefEqProofs only [go_sem, *, simprocAttr]; refine zai (l13_.1 n (by omega) _ _ ?_ ?_ ?_ ?_ ?_ ?_ ?_ ?_ ?_ ?_ ?_ ?_ _ _ ?_); (iterate 12 (simp -dsimp -implicitDefEqProofs only [go_sem, *, simprocAttr])); simp only [zeo]; intro e m i0; (try simp -dsimp -implicitDefEqProofs only [go_sem, *, simprocAttr]); simp only [zco] at hK; refine hK _ _ ?_; simp -dsimp -implicitDefEqProofs only [go_sem, *, simprocAttr]) | (have := l16_; simp -dsimp -implicitDefEqProofs only [go_sem, *, simprocAttr]; refine zai (l16_.1 n (by omega) _ _ ?_ ?_ ?_ ?_ ?_ ?_ ?_ ?_ ?_ ?_ ?_ ?_ _ _ ?_); (iterate 12 (simp -dsimp -implicitDefEqProofs only [go_sem, *, simprocAttr])); simp only [zeo]; intro e m i0 i1 i2 i3 i4 i5 i6 i7 i8; obtain ⟨_, _, _⟩ := i1; (first | (have := l17_; (try simp -dsimp -implicitDefEqProofs only [go_sem, *, simprocAttr]); refine zai (l17_.1 n (by omega) _ _ ?_ ?_ ?_ ?_ ?_ ?_ ?_ ?_ ?_ ?_ ?_ _ _ ?_); (iterate 11 (simp -dsimp -implicitDefEqProofs only [go_sem, *, simprocAttr])); simp only [zen]; intro e m i0; (try simp -dsimp -implicitDefEqProofs only [go_sem, *, simprocAttr]); simp only [zco] at hK; refine hK _ _ ?_; simp -dsimp -implicitDefEqProofs only [go_sem, *, simprocAttr]) | (have := l20_; (try simp -dsimp -implicitDefEqProofs only [go_sem, *, simprocAttr]); refine zai (l20_.1 n (by omega) _ _ ?_ ?_ ?_ ?_ ?_ ?_ ?_ ?_ ?_ ?_ ?_ _ _ ?_); (iterate 11 (simp -dsimp -implicitDefEqProofs only [go_sem, *, simprocAttr])); simp only [zen]; intro e m i0 i1 i2 i3 i4 i5 i6 i7; (try simp -dsimp -implicitDefEqProofs only [go_sem, *, simprocAttr]); refine zai (I.1 _ _ ?_ ?_ ?_ ?_ ?_ ?_ ?_ _ _ hK); (iterate 7 (simp -dsimp -implicitDefEqProofs only [go_sem, *, simprocAttr]))))) | ((try simp -dsimp -implicitDefEqProofs only [go_sem, *, simprocAttr]); refine zai (I.1 _ _ ?_ ?_ ?_ ?_ ?_ ?_ ?_ _ _ hK); (iterate 7 (simp -dsimp -implicitDefEqProofs only [go_sem, *, simprocAttr]))) | ((try simp -dsimp -implicitDefEqProofs only [go_sem, *, simprocAttr]); simp only [zco] at hK; refine hK _ _ ?_ ?_ ?_ ?_; (iterate 4 (simp -dsimp -implicitDefEqProofs only [go_sem, *, simprocAttr])))
def zcQ (c2 : Sl zam) (c3 : Int) (K : Ex → St → Option Res) (R : Option Res) : Out (Int) (Int × Int) → Prop
 | .ret r => ∀ (e : Env) (m : Mem), e 2 = (.int .i64 r) → K .ret ⟨e, m⟩ = R
 | .done q => ∀ (e : Env) (m : Mem), e 3 = (.int .i64 q.1) → K (.exit 0) ⟨e, m⟩ = R
noncomputable def znc : Code := zb4 f70 [1, 1, 0, 1, 0, 0]
theorem zig {c2 : Sl zam} {c3 : Int} {sz : Nat} (hg : zID sz) {kk : Nat} : ∀ {k : Nat} {s1 : Int} {s4 : Int} {out : Out (Int) (Int × Int)}, zbQ c2 c3 sz kk k s1 s4 = some out → ∃ N, ∀ n, N ≤ n → ∀ k, N ≤ k → ∀ (e : Env) (m : Mem), e 3 = (.int .i64 s1) → e 13 = (dSl zau c2) → e 14 = (.int .i64 c3) → e 15 = (.int .i64 s4) → ∀ (K : Ex → St → Option Res) (R : Option Res), zcQ c2 c3 K R out → zc0 (zbX cfg (dfn cfg n) n znc) K k ⟨e, m⟩ = R := by
 intro k
 induction k with
 | zero => intro s1 s4 out h; cases h
 | succ k ih => ?_
 intro s1 s4 out h
 have ih := fun x0 x1 {out} => @ih x0 x1 out
 unfold zbQ at h
 have E := evT
 rcases zae h with ⟨h21_, h⟩ | ⟨h21_, h⟩
 obtain ⟨y5, h22_, h⟩ := zaa h
 obtain ⟨_, h23_⟩ := zbK h22_
 have h23_ := zbs h23_ zau
 rcases zbj h with ⟨r26_, o25_, h⟩ | ⟨q43, o25_, h⟩
 obtain ⟨_, l24_, E⟩ := E.lp (zif hg o25_)
 rotate_left
 obtain ⟨_, l27_, E⟩ := E.lp (zif hg o25_)
 rotate_left
 rotate_left
 all_goals
  first | (obtain rfl := Option.some.inj h; refine E.l fun n k x => ?_) | refine E.c (ih _ _ h) fun n k x I => ?_
  intro e m i0 i1 i2 i3 K R hK
  rw [zaB]
  (conv => lhs; arg 4; whnf)
  first | (have := l24_; simp -dsimp -implicitDefEqProofs only [go_sem, *, simprocAttr]; refine zai (l24_.1 n (by omega) _ _ ?_ ?_ ?_ ?_ ?_ ?_ ?_ _ _ ?_); (iterate 7 (simp -dsimp -implicitDefEqProofs only [go_sem, *, simprocAttr])); simp only [zco]; intro e m i0; (try simp -dsimp -implicitDefEqProofs only [go_sem, *, simprocAttr]); simp only [zcQ] at hK; refine hK _ _ ?_; simp -dsimp -implicitDefEqProofs only [go_sem, *, simprocAttr]) | (have := l27_; simp -dsimp -implicitDefEqProofs only [go_sem, *, simprocAttr]; refine zai (l27_.1 n (by omega) _ _ ?_ ?_ ?_ ?_ ?_ ?_ ?_ _ _ ?_); (iterate 7 (simp -dsimp -implicitDefEqProofs only [go_sem, *, simprocAttr])); simp only [zco]; intro e m i0 i1 i2 i3; (try simp -dsimp -implicitDefEqProofs only [go_sem, *, simprocAttr]); refine zai (I.1 _ _ ?_ ?_ ?_ ?_ _ _ hK); (iterate 4 (simp -dsimp -implicitDefEqProofs only [go_sem, *, simprocAttr]))) | ((try simp -dsimp -implicitDefEqProofs only [go_sem, *, simprocAttr]); simp only [zcQ] at hK; refine hK _ _ ?_; simp -dsimp -implicitDefEqProofs only [go_sem, *, simprocAttr])
theorem zoQ {kk : Nat} {a : (Sl zam)} {sz : Nat} (hg : zID sz) {r : Int} (h : zfx kk sz a = some r) : Ev cfg 70 [(dSl zau a)] (.int .i64 r) := by
 unfold zfx at h
 have E := evT
 rcases zbj h with ⟨r30_, o29_, h⟩ | ⟨q44, o29_, h⟩
 obtain ⟨_, l28_, E⟩ := E.lp (zig hg o29_)
 rotate_left
 obtain ⟨_, l31_, E⟩ := E.lp (zig hg o29_)
 rotate_left
 all_goals
  obtain rfl := Option.some.inj h
  refine E.s fun n x => ?_
  first | (have := l28_; simp -dsimp -implicitDefEqProofs only [go_sem, func70, f70, *, simprocAttr]; refine zai (l28_.1 n (by omega) _ _ ?_ ?_ ?_ ?_ _ _ ?_); (iterate 4 (simp -dsimp -implicitDefEqProofs only [go_sem, *, simprocAttr])); simp only [zcQ]; intro e m i0; simp -dsimp -implicitDefEqProofs only [go_sem, func70, f70, *, simprocAttr]) | (have := l31_; simp -dsimp -implicitDefEqProofs only [go_sem, func70, f70, *, simprocAttr]; refine zai (l31_.1 n (by omega) _ _ ?_ ?_ ?_ ?_ _ _ ?_); (iterate 4 (simp -dsimp -implicitDefEqProofs only [go_sem, *, simprocAttr])); simp only [zcQ]; intro e m i0; simp -dsimp -implicitDefEqProofs only [go_sem, func70, f70, *, simprocAttr])
theorem znp : ∀ s : Nat, s < big → zID s := by
 intro s
 induction s with
 | zero => intro _; exact fun _ h => absurd h (by omega)
 | succ s ih =>
   intro hb
   have hg := ih (by omega)
   exact
    fun a h => zoQ (sz := s) hg (zm3 (kk := s + 1) (sz := s) (by omega) (by omega) (by omega))
theorem zo3 (a : (Sl zam)) (h : zal a.l < big - 1) : Ev cfg 70 [(dSl zau a)] (.int .i64 (zra a)) := (znp (big - 1) (by unfold big; omega)) a h
end Go.Proofs.Tryz
set_option maxRecDepth 100000
set_option maxHeartbeats 4000000
set_option linter.unusedSimpArgs false
set_option linter.unusedVariables false
namespace Go.Proofs.Tryz
open Go.Ev
theorem zqK {kk : Nat} {a : (Sl zam)} {b : (Sl zam)} {r : Bool} (h : zgD kk a b = some r) : Ev cfg 88 [(dSl zau a), (dSl zau b)] (.bool r) := by
 unfold zgD at h
 have E := evT
 obtain ⟨_, h1_, h⟩ := zaa h
 have E := E.and (zo6 a b (zah h1_))
 obtain rfl := Option.some.inj h
 refine E.s fun n x => ?_
 simp -dsimp -implicitDefEqProofs only [go_sem, func88, f88, *, simprocAttr]
theorem zqV (a : (Sl zam)) (b : (Sl zam)) (h : 8 * (zal a.l + zal b.l) + 7 < big - 1) : Ev cfg 88 [(dSl zau a), (dSl zau b)] (.bool (zuF a b)) := zqK (zom (kk := big) a b h (by omega))
end Go.Proofs.Tryz
set_option maxRecDepth 100000
set_option maxHeartbeats 4000000
set_option linter.unusedSimpArgs false
set_option linter.unusedVariables false
namespace Go.Proofs.Tryz
open Go.Ev
end Go.Proofs.Tryz
set_option maxRecDepth 100000
set_option maxHeartbeats 4000000
set_option linter.unusedSimpArgs false
set_option linter.unusedVariables false
namespace Go.Proofs.Tryz
open Go.Ev
theorem zmU {kk : Nat} {a : zaj} {r : Bool} (h : zf8 kk a = some r) : Ev cfg 75 [(.agg (zaP a))] (.bool r) := by
 unfold zf8 at h
 have E := evT
 rcases Bool.eq_false_or_eq_true ((decide (64 < a.exp))) with h1_ | h1_
 rotate_left
 rotate_left
 all_goals
  obtain rfl := Option.some.inj h
  refine E.s fun n x => ?_
  simp -dsimp -implicitDefEqProofs only [go_sem, func75, f75, *, simprocAttr]
theorem zm7 (a : zaj) : Ev cfg 75 [(.agg (zaP a))] (.bool (znl a)) := zmU (zkV 0 a)
theorem zkT {kk : Nat} {a : zam} {r : Bool} (h : ze0 kk a = some r) : Ev cfg 123 [(.agg (zau a))] (.bool r) := by
 unfold ze0 at h
 have E := evT
 obtain rfl := Option.some.inj h
 refine E.s fun n x => ?_
 simp -dsimp -implicitDefEqProofs only [go_sem, func123, f123, *, simprocAttr]
theorem zk2 (a : zam) : Ev cfg 123 [(.agg (zau a))] (.bool (zt6 a)) := zkT (zjx 0 a)
def zaT (c1 : Sl zaj) (c2 : Int) (K : Ex → St → Option Res) (R : Option Res) : Out (Int) (Int) → Prop
 | .ret r => ∀ (e : Env) (m : Mem), e 4 = (.int .i64 r) → K .ret ⟨e, m⟩ = R
 | .done q => ∀ (e : Env) (m : Mem), K (.exit 0) ⟨e, m⟩ = R
noncomputable def zex : Code := zb4 f116 [1, 0, 1, 0, 0]
theorem zcb {c1 : Sl zaj} {c2 : Int} {kk : Nat} : ∀ {k : Nat} {s3 : Int} {out : Out (Int) (Int)}, zaC c1 c2 kk k s3 = some out → ∃ N, ∀ n, N ≤ n → ∀ k, N ≤ k → ∀ (e : Env) (m : Mem), e 0 = (dSl zaP c1) → e 1 = (.fn (.func 75) [] []) → e 7 = (.int .i64 c2) → e 8 = (.int .i64 s3) → ∀ (K : Ex → St → Option Res) (R : Option Res), zaT c1 c2 K R out → zc0 (zbX cfg (dfn cfg n) n zex) K k ⟨e, m⟩ = R := by
 intro k
 induction k with
 | zero => intro s3 out h; cases h
 | succ k ih => ?_
 intro s3 out h
 have ih := fun x0 {out} => @ih x0 out
 unfold zaC at h
 have E := evT
 rcases zae h with ⟨h1_, h⟩ | ⟨h1_, h⟩
 obtain ⟨y4, h2_, h⟩ := zaa h
 obtain ⟨_, h3_⟩ := zbK h2_
 have h3_ := zbs h3_ zaP
 have E := E.and (zm7 y4)
 rcases zae h with ⟨h4_, h⟩ | ⟨h4_, h⟩
 rotate_left
 rotate_left
 rotate_left
 all_goals
  first | (obtain rfl := Option.some.inj h; refine E.l fun n k x => ?_) | refine E.c (ih _ h) fun n k x I => ?_
  intro e m i0 i1 i2 i3 K R hK
  rw [zaB]
  (conv => lhs; arg 4; whnf)
  first | (simp -dsimp -implicitDefEqProofs only [go_sem, *, simprocAttr]; simp only [zaT] at hK; refine hK _ _ ?_; simp -dsimp -implicitDefEqProofs only [go_sem, *, simprocAttr]) | (simp -dsimp -implicitDefEqProofs only [go_sem, *, simprocAttr]; refine zai (I.1 _ _ ?_ ?_ ?_ ?_ _ _ hK); (iterate 4 (simp -dsimp -implicitDefEqProofs only [go_sem, *, simprocAttr]))) | (simp -dsimp -implicitDefEqProofs only [go_sem, *, simprocAttr]; simp only [zaT] at hK; refine hK _ _)
theorem zeT {kk : Nat} {a : (Sl zaj)} {r : Int} (h : zbn kk a = some r) : Ev cfg 116 [(dSl zaP a), (.fn (.func 75) [] [])] (.int .i64 r) := by
 unfold zbn at h
 have E := evT
 rcases zbj h with ⟨r7_, o6_, h⟩ | ⟨q5, o6_, h⟩
 obtain ⟨_, l5_, E⟩ := E.lp (zcb o6_)
 rotate_left
 obtain ⟨_, l8_, E⟩ := E.lp (zcb o6_)
 rotate_left
 all_goals
  obtain rfl := Option.some.inj h
  refine E.s fun n x => ?_
  first | (have := l5_; simp -dsimp -implicitDefEqProofs only [go_sem, func116, f116, *, simprocAttr]; refine zai (l5_.1 n (by omega) _ _ ?_ ?_ ?_ ?_ _ _ ?_); (iterate 4 (simp -dsimp -implicitDefEqProofs only [go_sem, *, simprocAttr])); simp only [zaT]; intro e m i0; simp -dsimp -implicitDefEqProofs only [go_sem, func116, f116, *, simprocAttr]) | (have := l8_; simp -dsimp -implicitDefEqProofs only [go_sem, func116, f116, *, simprocAttr]; refine zai (l8_.1 n (by omega) _ _ ?_ ?_ ?_ ?_ _ _ ?_); (iterate 4 (simp -dsimp -implicitDefEqProofs only [go_sem, *, simprocAttr])); simp only [zaT]; intro e m; simp -dsimp -implicitDefEqProofs only [go_sem, func116, f116, *, simprocAttr])
theorem zeU (a : (Sl zaj)) (h : a.l.length < big - 1) : Ev cfg 116 [(dSl zaP a), (.fn (.func 75) [] [])] (.int .i64 (zsi znl a)) := zeT (zeq (kk := big) a h (by omega))
theorem zel {kk : Nat} {a : (Sl zaj)} {r : Bool} (h : zbh kk a = some r) : Ev cfg 74 [(dSl zaP a), (.fn (.func 75) [] [])] (.bool r) := by
 unfold zbh at h
 have E := evT
 obtain ⟨_, h1_, h⟩ := zaa h
 have E := E.and (zeU a (zah h1_))
 obtain rfl := Option.some.inj h
 refine E.s fun n x => ?_
 simp -dsimp -implicitDefEqProofs only [go_sem, func74, f74, *, simprocAttr]
theorem zew (a : (Sl zaj)) (h : a.l.length < big - 1) : Ev cfg 74 [(dSl zaP a), (.fn (.func 75) [] [])] (.bool (zqX znl a)) := zel (zdP (kk := big) a h (by omega))
theorem zof {kk : Nat} {a : zam} {r : Bool} (h : ze9 kk a = some r) : Ev cfg 73 [(.agg (zau a))] (.bool r) := by
 unfold ze9 at h
 have E := evT
 rcases zae h with ⟨h1_, h⟩ | ⟨h1_, h⟩
 have b2_ := zar h1_
 obtain ⟨_, h3_, h⟩ := zaa h
 have E := E.and (zew a.factors (zah h3_))
 rotate_left
 have b4_ := zan h1_
 rotate_left
 all_goals
  obtain rfl := Option.some.inj h
  refine E.s fun n x => ?_
  simp -dsimp -implicitDefEqProofs only [go_sem, func73, f73, *, simprocAttr]
theorem zor (a : zam) (h : zcY a < big - 1) : Ev cfg 73 [(.agg (zau a))] (.bool (znk a)) := zof (zme (kk := big) a h (by omega))
def zaX (c1 : Sl zam) (c2 : Int) (K : Ex → St → Option Res) (R : Option Res) : Out (Int) (Int) → Prop
 | .ret r => ∀ (e : Env) (m : Mem), e 4 = (.int .i64 r) → K .ret ⟨e, m⟩ = R
 | .done q => ∀ (e : Env) (m : Mem), K (.exit 0) ⟨e, m⟩ = R
noncomputable def ze2 : Code := zb4 f115 [1, 0, 1, 0, 0]
theorem zcq {c1 : Sl zam} {c2 : Int} {kk : Nat} : ∀ {k : Nat} {s3 : Int} {out : Out (Int) (Int)}, zaO c1 c2 kk k s3 = some out → ∃ N, ∀ n, N ≤ n → ∀ k, N ≤ k → ∀ (e : Env) (m : Mem), e 0 = (dSl zau c1) → e 1 = (.fn (.func 73) [] []) → e 7 = (.int .i64 c2) → e 8 = (.int .i64 s3) → ∀ (K : Ex → St → Option Res) (R : Option Res), zaX c1 c2 K R out → zc0 (zbX cfg (dfn cfg n) n ze2) K k ⟨e, m⟩ = R := by
 intro k
 induction k with
 | zero => intro s3 out h; cases h
 | succ k ih => ?_
 intro s3 out h
 have ih := fun x0 {out} => @ih x0 out
 unfold zaO at h
 have E := evT
 rcases zae h with ⟨h1_, h⟩ | ⟨h1_, h⟩
 obtain ⟨y4, h2_, h⟩ := zaa h
 obtain ⟨_, h3_⟩ := zbK h2_
 have h3_ := zbs h3_ zau
 obtain ⟨_, h4_, h⟩ := zaa h
 have E := E.and (zor y4 (zah h4_))
 rcases zae h with ⟨h5_, h⟩ | ⟨h5_, h⟩
 rotate_left
 rotate_left
 rotate_left
 all_goals
  first | (obtain rfl := Option.some.inj h; refine E.l fun n k x => ?_) | refine E.c (ih _ h) fun n k x I => ?_
  intro e m i0 i1 i2 i3 K R hK
  rw [zaB]
  (conv => lhs; arg 4; whnf)
  first | (simp -dsimp -implicitDefEqProofs only [go_sem, *, simprocAttr]; simp only [zaX] at hK; refine hK _ _ ?_; simp -dsimp -implicitDefEqProofs only [go_sem, *, simprocAttr]) | (simp -dsimp -implicitDefEqProofs only [go_sem, *, simprocAttr]; refine zai (I.1 _ _ ?_ ?_ ?_ ?_ _ _ hK); (iterate 4 (simp -dsimp -implicitDefEqProofs only [go_sem, *, simprocAttr]))) | (simp -dsimp -implicitDefEqProofs only [go_sem, *, simprocAttr]; simp only [zaX] at hK; refine hK _ _)
theorem zfm {kk : Nat} {a : (Sl zam)} {r : Int} (h : zbt kk a = some r) : Ev cfg 115 [(dSl zau a), (.fn (.func 73) [] [])] (.int .i64 r) := by
 unfold zbt at h
 have E := evT
 rcases zbj h with ⟨r8_, o7_, h⟩ | ⟨q6, o7_, h⟩
 obtain ⟨_, l6_, E⟩ := E.lp (zcq o7_)
 rotate_left
 obtain ⟨_, l9_, E⟩ := E.lp (zcq o7_)
 rotate_left
 all_goals
  obtain rfl := Option.some.inj h
  refine E.s fun n x => ?_
  first | (have := l6_; simp -dsimp -implicitDefEqProofs only [go_sem, func115, f115, *, simprocAttr]; refine zai (l6_.1 n (by omega) _ _ ?_ ?_ ?_ ?_ _ _ ?_); (iterate 4 (simp -dsimp -implicitDefEqProofs only [go_sem, *, simprocAttr])); simp only [zaX]; intro e m i0; simp -dsimp -implicitDefEqProofs only [go_sem, func115, f115, *, simprocAttr]) | (have := l9_; simp -dsimp -implicitDefEqProofs only [go_sem, func115, f115, *, simprocAttr]; refine zai (l9_.1 n (by omega) _ _ ?_ ?_ ?_ ?_ _ _ ?_); (iterate 4 (simp -dsimp -implicitDefEqProofs only [go_sem, *, simprocAttr])); simp only [zaX]; intro e m; simp -dsimp -implicitDefEqProofs only [go_sem, func115, f115, *, simprocAttr])
theorem zfn (a : (Sl zam)) (h : zal a.l < big - 1) : Ev cfg 115 [(dSl zau a), (.fn (.func 73) [] [])] (.int .i64 (zsi znk a)) := zfm (zeZ (kk := big) a h (by omega))
theorem zeX {kk : Nat} {a : (Sl zam)} {r : Bool} (h : zbo kk a = some r) : Ev cfg 72 [(dSl zau a), (.fn (.func 73) [] [])] (.bool r) := by
 unfold zbo at h
 have E := evT
 obtain ⟨_, h1_, h⟩ := zaa h
 have E := E.and (zfn a (zah h1_))
 obtain rfl := Option.some.inj h
 refine E.s fun n x => ?_
 simp -dsimp -implicitDefEqProofs only [go_sem, func72, f72, *, simprocAttr]
theorem ze1 (a : (Sl zam)) (h : zal a.l < big - 1) : Ev cfg 72 [(dSl zau a), (.fn (.func 73) [] [])] (.bool (zqX znk a)) := zeX (zez (kk := big) a h (by omega))
theorem zpL {kk : Nat} {a : (Sl zam)} {r : Bool} (h : zf9 kk a = some r) : Ev cfg 42 [(dSl zau a)] (.bool r) := by
 unfold zf9 at h
 have E := evT
 rcases zae h with ⟨h1_, h⟩ | ⟨h1_, h⟩
 have b2_ := zar h1_
 obtain ⟨_, h3_, h⟩ := zaa h
 have E := E.and (zo3 a (zah h3_))
 rcases zae h with ⟨h4_, h⟩ | ⟨h4_, h⟩
 have b5_ := zar h4_
 obtain ⟨_, h6_, h⟩ := zaa h
 have E := E.and (zrQ a (zah h6_))
 rcases zae h with ⟨h7_, h⟩ | ⟨h7_, h⟩
 rotate_left
 obtain ⟨_, h8_, h⟩ := zaa h
 have E := E.and (ze1 a (zah h8_))
 rotate_left
 have b9_ := zan h4_
 rotate_left
 have b10_ := zan h1_
 rotate_left
 all_goals
  obtain rfl := Option.some.inj h
  refine E.s fun n x => ?_
  simp -dsimp -implicitDefEqProofs only [go_sem, func42, f42, *, simprocAttr]
theorem zpT (a : (Sl zam)) (h : zal a.l < big - 1) : Ev cfg 42 [(dSl zau a)] (.bool (ztr a)) := zpL (znD (kk := big) a h (by omega))
def zaR (c1 : Sl zam) (c2 : Int) (K : Ex → St → Option Res) (R : Option Res) : Out (Int) (Int) → Prop
 | .ret r => ∀ (e : Env) (m : Mem), e 4 = (.int .i64 r) → K .ret ⟨e, m⟩ = R
 | .done q => ∀ (e : Env) (m : Mem), K (.exit 0) ⟨e, m⟩ = R
noncomputable def zeg : Code := zb4 f115 [1, 0, 1, 0, 0]
theorem zb7 {c1 : Sl zam} {c2 : Int} {kk : Nat} : ∀ {k : Nat} {s3 : Int} {out : Out (Int) (Int)}, zaA c1 c2 kk k s3 = some out → ∃ N, ∀ n, N ≤ n → ∀ k, N ≤ k → ∀ (e : Env) (m : Mem), e 0 = (dSl zau c1) → e 1 = (.fn (.func 123) [] []) → e 7 = (.int .i64 c2) → e 8 = (.int .i64 s3) → ∀ (K : Ex → St → Option Res) (R : Option Res), zaR c1 c2 K R out → zc0 (zbX cfg (dfn cfg n) n zeg) K k ⟨e, m⟩ = R := by
 intro k
 induction k with
 | zero => intro s3 out h; cases h
 | succ k ih => ?_
 intro s3 out h
 have ih := fun x0 {out} => @ih x0 out
 unfold zaA at h
 have E := evT
 rcases zae h with ⟨h1_, h⟩ | ⟨h1_, h⟩
 obtain ⟨y4, h2_, h⟩ := zaa h
 obtain ⟨_, h3_⟩ := zbK h2_
 have h3_ := zbs h3_ zau
 have E := E.and (zk2 y4)
 rcases zae h with ⟨h4_, h⟩ | ⟨h4_, h⟩
 rotate_left
 rotate_left
 rotate_left
 all_goals
  first | (obtain rfl := Option.some.inj h; refine E.l fun n k x => ?_) | refine E.c (ih _ h) fun n k x I => ?_
  intro e m i0 i1 i2 i3 K R hK
  rw [zaB]
  (conv => lhs; arg 4; whnf)
  first | (simp -dsimp -implicitDefEqProofs only [go_sem, *, simprocAttr]; simp only [zaR] at hK; refine hK _ _ ?_; simp -dsimp -implicitDefEqProofs only [go_sem, *, simprocAttr]) | (simp -dsimp -implicitDefEqProofs only [go_sem, *, simprocAttr]; refine zai (I.1 _ _ ?_ ?_ ?_ ?_ _ _ hK); (iterate 4 (simp -dsimp -implicitDefEqProofs only [go_sem, *, simprocAttr]))) | (simp -dsimp -implicitDefEqProofs only [go_sem, *, simprocAttr]; simp only [zaR] at hK; refine hK _ _)
theorem zeH {kk : Nat} {a : (Sl zam)} {r : Int} (h : zbm kk a = some r) : Ev cfg 115 [(dSl zau a), (.fn (.func 123) [] [])] (.int .i64 r) := by
 unfold zbm at h
 have E := evT
 rcases zbj h with ⟨r7_, o6_, h⟩ | ⟨q5, o6_, h⟩
 obtain ⟨_, l5_, E⟩ := E.lp (zb7 o6_)
 rotate_left
 obtain ⟨_, l8_, E⟩ := E.lp (zb7 o6_)
 rotate_left
 all_goals
  obtain rfl := Option.some.inj h
  refine E.s fun n x => ?_
  first | (have := l5_; simp -dsimp -implicitDefEqProofs only [go_sem, func115, f115, *, simprocAttr]; refine zai (l5_.1 n (by omega) _ _ ?_ ?_ ?_ ?_ _ _ ?_); (iterate 4 (simp -dsimp -implicitDefEqProofs only [go_sem, *, simprocAttr])); simp only [zaR]; intro e m i0; simp -dsimp -implicitDefEqProofs only [go_sem, func115, f115, *, simprocAttr]) | (have := l8_; simp -dsimp -implicitDefEqProofs only [go_sem, func115, f115, *, simprocAttr]; refine zai (l8_.1 n (by omega) _ _ ?_ ?_ ?_ ?_ _ _ ?_); (iterate 4 (simp -dsimp -implicitDefEqProofs only [go_sem, *, simprocAttr])); simp only [zaR]; intro e m; simp -dsimp -implicitDefEqProofs only [go_sem, func115, f115, *, simprocAttr])
theorem zeM (a : (Sl zam)) (h : a.l.length < big - 1) : Ev cfg 115 [(dSl zau a), (.fn (.func 123) [] [])] (.int .i64 (zsi zt6 a)) := zeH (zed (kk := big) a h (by omega))
theorem zea {kk : Nat} {a : (Sl zam)} {r : Bool} (h : zba kk a = some r) : Ev cfg 72 [(dSl zau a), (.fn (.func 123) [] [])] (.bool r) := by
 unfold zba at h
 have E := evT
 obtain ⟨_, h1_, h⟩ := zaa h
 have E := E.and (zeM a (zah h1_))
 obtain rfl := Option.some.inj h
 refine E.s fun n x => ?_
 simp -dsimp -implicitDefEqProofs only [go_sem, func72, f72, *, simprocAttr]
theorem zee (a : (Sl zam)) (h : a.l.length < big - 1) : Ev cfg 72 [(dSl zau a), (.fn (.func 123) [] [])] (.bool (zqX zt6 a)) := zea (zdH (kk := big) a h (by omega))
theorem zmb {kk : Nat} {a : (Sl zam)} {r : Bool} (h : zd4 kk a = some r) : Ev cfg 91 [(dSl zau a)] (.bool r) := by
 unfold zd4 at h
 have E := evT
 obtain ⟨_, h1_, h⟩ := zaa h
 have E := E.and (zee a (zah h1_))
 obtain rfl := Option.some.inj h
 refine E.s fun n x => ?_
 simp -dsimp -implicitDefEqProofs only [go_sem, func91, f91, *, simprocAttr]
theorem zmh (a : (Sl zam)) (h : a.l.length < big - 1) : Ev cfg 91 [(dSl zau a)] (.bool (zja a)) := zmb (zkI (kk := big) a h (by omega))
end Go.Proofs.Tryz
set_option maxRecDepth 100000
set_option maxHeartbeats 4000000
set_option linter.unusedSimpArgs false
set_option linter.unusedVariables false
namespace Go.Proofs.Tryz
open Go.Ev
def zaD (c1 : Sl zaf) (K : Ex → St → Option Res) (R : Option Res) : Out (Bool) (Int) → Prop
 | .ret r => ∀ (e : Env) (m : Mem), e 4 = (.bool r) → K .ret ⟨e, m⟩ = R
 | .done q => ∀ (e : Env) (m : Mem), K (.exit 0) ⟨e, m⟩ = R
noncomputable def zde : Code := zb4 f94 [1, 0, 1, 0, 0]
theorem zbO {c1 : Sl zaf} {kk : Nat} : ∀ {k : Nat} {s2 : Int} {out : Out (Bool) (Int)}, zak c1 kk k s2 = some out → ∃ N, ∀ n, N ≤ n → ∀ k, N ≤ k → ∀ (e : Env) (m : Mem), e 0 = (dSl zao c1) → e 1 = (.fn (.func 83) [] []) → e 5 = (.int .i64 s2) → ∀ (K : Ex → St → Option Res) (R : Option Res), zaD c1 K R out → zc0 (zbX cfg (dfn cfg n) n zde) K k ⟨e, m⟩ = R := by
 intro k
 induction k with
 | zero => intro s2 out h; cases h
 | succ k ih => ?_
 intro s2 out h
 have ih := fun x0 {out} => @ih x0 out
 unfold zak at h
 have E := evT
 rcases zae h with ⟨h1_, h⟩ | ⟨h1_, h⟩
 obtain ⟨y3, h2_, h⟩ := zaa h
 obtain ⟨_, h3_⟩ := zbK h2_
 have h3_ := zbs h3_ zao
 obtain ⟨y4, h4_, h⟩ := zaa h
 obtain ⟨_, h5_⟩ := zbK h4_
 have h5_ := zbs h5_ zao
 obtain ⟨_, h6_, h⟩ := zaa h
 have E := E.and (zlP y3 y4 (zah h6_))
 rcases zae h with ⟨h7_, h⟩ | ⟨h7_, h⟩
 rotate_left
 rotate_left
 rotate_left
 all_goals
  first | (obtain rfl := Option.some.inj h; refine E.l fun n k x => ?_) | refine E.c (ih _ h) fun n k x I => ?_
  intro e m i0 i1 i2 K R hK
  rw [zaB]
  (conv => lhs; arg 4; whnf)
  first | (simp -dsimp -implicitDefEqProofs only [go_sem, *, simprocAttr]; simp only [zaD] at hK; refine hK _ _ ?_; simp -dsimp -implicitDefEqProofs only [go_sem, *, simprocAttr]) | (simp -dsimp -implicitDefEqProofs only [go_sem, *, simprocAttr]; refine zai (I.1 _ _ ?_ ?_ ?_ _ _ hK); (iterate 3 (simp -dsimp -implicitDefEqProofs only [go_sem, *, simprocAttr]))) | (simp -dsimp -implicitDefEqProofs only [go_sem, *, simprocAttr]; simp only [zaD] at hK; refine hK _ _)
theorem zdE {kk : Nat} {a : (Sl zaf)} {r : Bool} (h : za2 kk a = some r) : Ev cfg 94 [(dSl zao a), (.fn (.func 83) [] [])] (.bool r) := by
 unfold za2 at h
 have E := evT
 rcases zbj h with ⟨r10_, o9_, h⟩ | ⟨q6, o9_, h⟩
 obtain ⟨_, l8_, E⟩ := E.lp (zbO o9_)
 rotate_left
 obtain ⟨_, l11_, E⟩ := E.lp (zbO o9_)
 rotate_left
 all_goals
  obtain rfl := Option.some.inj h
  refine E.s fun n x => ?_
  first | (have := l8_; simp -dsimp -implicitDefEqProofs only [go_sem, func94, f94, *, simprocAttr]; refine zai (l8_.1 n (by omega) _ _ ?_ ?_ ?_ _ _ ?_); (iterate 3 (simp -dsimp -implicitDefEqProofs only [go_sem, *, simprocAttr])); simp only [zaD]; intro e m i0; simp -dsimp -implicitDefEqProofs only [go_sem, func94, f94, *, simprocAttr]) | (have := l11_; simp -dsimp -implicitDefEqProofs only [go_sem, func94, f94, *, simprocAttr]; refine zai (l11_.1 n (by omega) _ _ ?_ ?_ ?_ _ _ ?_); (iterate 3 (simp -dsimp -implicitDefEqProofs only [go_sem, *, simprocAttr])); simp only [zaD]; intro e m; simp -dsimp -implicitDefEqProofs only [go_sem, func94, f94, *, simprocAttr])
theorem zdI (a : (Sl zaf)) (h : 8 * zbB a.l + 5 < big - 1) : Ev cfg 94 [(dSl zao a), (.fn (.func 83) [] [])] (.bool (znL a)) := zdE (zdc (kk := big) a h (by omega))
end Go.Proofs.Tryz
set_option maxRecDepth 100000
set_option maxHeartbeats 4000000
set_option linter.unusedSimpArgs false
set_option linter.unusedVariables false
namespace Go.Proofs.Tryz
open Go.Ev
theorem znt {kk : Nat} {a : zaf} {u0 : Val} {u1 : Int} {r : Bool × Val × Int} (h : zdd kk a u0 u1 = some r) : ∃ N, ∀ n, N ≤ n → ∀ g0_ g1_, dfn cfg n 125 [(.agg (zao a)), (.ptr (.arg 0) g0_ 0 0), (.ptr (.arg 1) g1_ 0 0)] [.rows g0_ false true 3 [zfR u0], .rows g1_ false true 1 [[(.int .i64 u1)]]] = some ⟨(.bool r.1), [.rows g0_ false true 3 [zfR r.2.1], .rows g1_ false true 1 [[(.int .i64 r.2.2)]]], []⟩ := by
 unfold zdd at h
 have E := evT
 have E := E.and (zhk a.value)
 rcases Bool.eq_false_or_eq_true (((zbb a.value))) with h1_ | h1_
 rcases Bool.eq_false_or_eq_true ((a.value.kind != u0.kind)) with h2_ | h2_
 rcases Bool.eq_false_or_eq_true ((u1 == 0)) with h3_ | h3_
 rotate_left
 rotate_left
 rcases Bool.eq_false_or_eq_true ((u1 == 0)) with h4_ | h4_
 rotate_left
 rotate_left
 rcases Bool.eq_false_or_eq_true ((u1 == 0)) with h5_ | h5_
 rotate_left
 rotate_left
 all_goals
  obtain rfl := Option.some.inj h
  refine E.s fun n x g0_ g1_ => ?_
  simp -dsimp -implicitDefEqProofs only [go_sem, func125, f125, *, simprocAttr]
def zaQ (c1 : Sl zaf) (c2 : Int) (g0_ : Nat) (g1_ : Nat) (K : Ex → St → Option Res) (R : Option Res) : Out (Int × Val × Int) (Int × Val × Int) → Prop
 | .ret r => ∀ (e : Env) (m : Mem), e 4 = (.int .i64 r.1) → m (.arg 0) = some (.rows g0_ false true 3 [zfR r.2.1]) → m (.arg 1) = some (.rows g1_ false true 1 [[(.int .i64 r.2.2)]]) → K .ret ⟨e, m⟩ = R
 | .done q => ∀ (e : Env) (m : Mem), m (.arg 0) = some (.rows g0_ false true 3 [zfR q.2.1]) → m (.arg 1) = some (.rows g1_ false true 1 [[(.int .i64 q.2.2)]]) → K (.exit 0) ⟨e, m⟩ = R
noncomputable def zef : Code := zb4 f124 [1, 0, 1, 0, 0]
theorem zb6 {c1 : Sl zaf} {c2 : Int} {kk : Nat} : ∀ {k : Nat} {s3 : Int} {s4 : Val} {s5 : Int} {out : Out (Int × Val × Int) (Int × Val × Int)}, zat c1 c2 kk k s3 s4 s5 = some out → ∃ N, ∀ n, N ≤ n → ∀ k, N ≤ k → ∀ g0_ g1_, ∀ (e : Env) (m : Mem), e 0 = (dSl zao c1) → e 1 = (.fn (.func 125) [] [(.ptr (.arg 0) g0_ 0 0), (.ptr (.arg 1) g1_ 0 0)]) → e 7 = (.int .i64 c2) → e 8 = (.int .i64 s3) → m (.arg 0) = some (.rows g0_ false true 3 [zfR s4]) → m (.arg 1) = some (.rows g1_ false true 1 [[(.int .i64 s5)]]) → ∀ (K : Ex → St → Option Res) (R : Option Res), zaQ c1 c2 g0_ g1_ K R out → zc0 (zbX cfg (dfn cfg n) n zef) K k ⟨e, m⟩ = R := by
 intro k
 induction k with
 | zero => intro s3 s4 s5 out h; cases h
 | succ k ih => ?_
 intro s3 s4 s5 out h
 have ih := fun x0 x1 x2 {out} => @ih x0 x1 x2 out
 unfold zat at h
 have E := evT
 rcases zae h with ⟨h1_, h⟩ | ⟨h1_, h⟩
 obtain ⟨y6, h2_, h⟩ := zaa h
 obtain ⟨_, h3_⟩ := zbK h2_
 have h3_ := zbs h3_ zao
 obtain ⟨r7, h4_, h⟩ := zaa h
 have E := E.and (znt h4_)
 rcases zae h with ⟨h5_, h⟩ | ⟨h5_, h⟩
 rotate_left
 rotate_left
 rotate_left
 all_goals
  first | (obtain rfl := Option.some.inj h; refine E.l fun n k x => ?_) | refine E.c (ih _ _ _ h) fun n k x I => ?_
  intro g0_ g1_ e m i0 i1 i2 i3 i4 i5 K R hK
  rw [zaB]
  (conv => lhs; arg 4; whnf)
  first | (simp -dsimp -implicitDefEqProofs only [go_sem, *, simprocAttr]; simp only [zaQ] at hK; refine hK _ _ ?_ ?_ ?_; (iterate 3 (simp -dsimp -implicitDefEqProofs only [go_sem, *, simprocAttr]))) | (simp -dsimp -implicitDefEqProofs only [go_sem, *, simprocAttr]; refine zai (I.1 g0_ g1_ _ _ ?_ ?_ ?_ ?_ ?_ ?_ _ _ hK); (iterate 6 (simp -dsimp -implicitDefEqProofs only [go_sem, *, simprocAttr]))) | (simp -dsimp -implicitDefEqProofs only [go_sem, *, simprocAttr]; simp only [zaQ] at hK; refine hK _ _ ?_ ?_; (iterate 2 (simp -dsimp -implicitDefEqProofs only [go_sem, *, simprocAttr])))
theorem zeG {kk : Nat} {a : (Sl zaf)} {u0 : Val} {u1 : Int} {r : Int × Val × Int} (h : zbl kk a u0 u1 = some r) : ∃ N, ∀ n, N ≤ n → ∀ g0_ g1_, dfn cfg n 124 [(dSl zao a), (.fn (.func 125) [] [(.ptr (.arg 0) g0_ 0 0), (.ptr (.arg 1) g1_ 0 0)])] [.rows g0_ false true 3 [zfR u0], .rows g1_ false true 1 [[(.int .i64 u1)]]] = some ⟨(.int .i64 r.1), [.rows g0_ false true 3 [zfR r.2.1], .rows g1_ false true 1 [[(.int .i64 r.2.2)]]], []⟩ := by
 unfold zbl at h
 have E := evT
 rcases zbj h with ⟨r8_, o7_, h⟩ | ⟨q8, o7_, h⟩
 obtain ⟨_, l6_, E⟩ := E.lp (zb6 o7_)
 rotate_left
 obtain ⟨_, l9_, E⟩ := E.lp (zb6 o7_)
 rotate_left
 all_goals
  obtain rfl := Option.some.inj h
  refine E.s fun n x g0_ g1_ => ?_
  first | (have := l6_; simp -dsimp -implicitDefEqProofs only [go_sem, func124, f124, *, simprocAttr]; refine zai (l6_.1 n (by omega) g0_ g1_ _ _ ?_ ?_ ?_ ?_ ?_ ?_ _ _ ?_); (iterate 6 (simp -dsimp -implicitDefEqProofs only [go_sem, *, simprocAttr])); simp only [zaQ]; intro e m i0 i1 i2; simp -dsimp -implicitDefEqProofs only [go_sem, func124, f124, *, simprocAttr]) | (have := l9_; simp -dsimp -implicitDefEqProofs only [go_sem, func124, f124, *, simprocAttr]; refine zai (l9_.1 n (by omega) g0_ g1_ _ _ ?_ ?_ ?_ ?_ ?_ ?_ _ _ ?_); (iterate 6 (simp -dsimp -implicitDefEqProofs only [go_sem, *, simprocAttr])); simp only [zaQ]; intro e m i0 i1; simp -dsimp -implicitDefEqProofs only [go_sem, func124, f124, *, simprocAttr])
theorem zbw {kk : Nat} {a : (Sl zaf)} {u0 : Val} {u1 : Int} {r : Bool × Val × Int} (h : zaS kk a u0 u1 = some r) : ∃ N, ∀ n, N ≤ n → ∀ g0_ g1_, dfn cfg n 92 [(dSl zao a), (.fn (.func 125) [] [(.ptr (.arg 0) g0_ 0 0), (.ptr (.arg 1) g1_ 0 0)])] [.rows g0_ false true 3 [zfR u0], .rows g1_ false true 1 [[(.int .i64 u1)]]] = some ⟨(.bool r.1), [.rows g0_ false true 3 [zfR r.2.1], .rows g1_ false true 1 [[(.int .i64 r.2.2)]]], []⟩ := by
 unfold zaS at h
 have E := evT
 obtain ⟨r1, h1_, h⟩ := zaa h
 have E := E.and (zeG h1_)
 obtain rfl := Option.some.inj h
 refine E.s fun n x g0_ g1_ => ?_
 simp -dsimp -implicitDefEqProofs only [go_sem, func92, f92, *, simprocAttr]
theorem zoR {kk : Nat} {a : Int} {b : (Sl zaf)} {c : Int} {d : Val} {r : Bool} (h : zfy kk a b c d = some r) : Ev cfg 95 [(.int .i64 a), (dSl zao b), (.int .i64 c), (.agg (zfR d))] (.bool r) := by
 unfold zfy at h
 have E := evT
 have E := E.and (zhk d)
 rcases zae h with ⟨h1_, h⟩ | ⟨h1_, h⟩
 rcases zeP h1_ with b2_ | ⟨b2_, b3_⟩
 rcases zeP b2_ with b4_ | ⟨b4_, b5_⟩
 rcases zeP b4_ with b6_ | ⟨b6_, b7_⟩
 rcases zeP b6_ with b8_ | ⟨b8_, b9_⟩
 rotate_left
 rotate_left
 obtain ⟨b10_, b11_⟩ := zca b6_
 rotate_left
 obtain ⟨b12_, b13_⟩ := zca b4_
 obtain ⟨b14_, b15_⟩ := zca b12_
 rotate_left
 obtain ⟨b16_, b17_⟩ := zca b2_
 obtain ⟨b18_, b19_⟩ := zca b16_
 obtain ⟨b20_, b21_⟩ := zca b18_
 have b22_ := zar b3_
 rotate_left
 obtain ⟨b23_, b24_⟩ := zca h1_
 obtain ⟨b25_, b26_⟩ := zca b23_
 obtain ⟨b27_, b28_⟩ := zca b25_
 obtain ⟨b29_, b30_⟩ := zca b27_
 have b31_ := zan b24_
 rcases zae h with ⟨h32_, h⟩ | ⟨h32_, h⟩
 obtain ⟨b33_, b34_⟩ := zcK h32_
 rcases zeP b33_ with b35_ | ⟨b35_, b36_⟩
 rotate_left
 rotate_left
 rcases zcd h32_ with b37_ | ⟨b37_, b38_⟩
 obtain ⟨b39_, b40_⟩ := zca b37_
 obtain ⟨r1, h43_, h⟩ := zaa h
 have E := E.and (zbw h43_)
 rotate_left
 rcases zeP b37_ with b41_ | ⟨b41_, b42_⟩
 obtain ⟨r1, h44_, h⟩ := zaa h
 have E := E.and (zbw h44_)
 rotate_left
 obtain ⟨r1, h45_, h⟩ := zaa h
 have E := E.and (zbw h45_)
 rotate_left
 all_goals
  obtain rfl := Option.some.inj h
  refine E.s fun n x => ?_
  simp -dsimp -implicitDefEqProofs only [go_sem, func95, f95, *, simprocAttr]
theorem zo4 (a : Int) (b : Sl zaf) (c : Int) (d : Val) (h : b.l.length < big - 1) : Ev cfg 95 [(.int .i64 a), (dSl zao b), (.int .i64 c), (.agg (zfR d))] (.bool (zpk a b c d)) := zoR (zm4 (kk := big) a b c d h (by omega))
end Go.Proofs.Tryz
set_option maxRecDepth 100000
set_option maxHeartbeats 4000000
set_option linter.unusedSimpArgs false
set_option linter.unusedVariables false
namespace Go.Proofs.Tryz
open Go.Ev
def zdF (c16 : Sl zam) (c17 : Sl zam) (c18 : Int) (c19 : Int) (c20 : Sl zaj) (c21 : Int) (c23 : zam) (K : Ex → St → Option Res) (R : Option Res) : Out (Bool) (Int) → Prop
 | .ret r => ∀ (e : Env) (m : Mem), e 2 = (.bool r) → K .ret ⟨e, m⟩ = R
 | .done q => ∀ (e : Env) (m : Mem), e 0 = (dSl zau c16) → e 10 = (dSl zau c17) → e 11 = (.int .i64 c18) → e 12 = (.int .i64 c19) → K (.exit 2) ⟨e, m⟩ = R
noncomputable def zos : Code := zb4 f21 [1, 1, 0, 1, 0, 0, 1, 1, 0, 0, 1, 1, 1, 0, 0]
abbrev zx1 (sz : Nat) : Prop := (∀ (a : (Sl zam)), 20 * zal a.l + 1 < sz → Ev cfg 21 [(dSl zau a)] (.bool (zdD a))) ∧ (∀ (a : zap), 20 * zdp a < sz → Ev cfg 46 [(.agg (zcB a))] (.bool (znQ a))) ∧ (∀ (a : (Sl zam)), 20 * zal a.l + 2 < sz → Ev cfg 86 [(dSl zau a)] (.bool (zlh a))) ∧ (∀ (a : (Sl (Sl zam))), 20 * zdq a.l < sz → Ev cfg 122 [(dSl (cSl zau) a), (.fn (.func 86) [] [])] (.int .i64 (zsi zlh a))) ∧ (∀ (a : (Sl (Sl zam))), 20 * zdq a.l + 1 < sz → Ev cfg 85 [(dSl (cSl zau) a), (.fn (.func 86) [] [])] (.bool (zqX zlh a))) ∧ (∀ (a : zaf), 20 * zeV a < sz → Ev cfg 93 [(.agg (zao a))] (.bool (zia a))) ∧ (∀ (a : (Sl zaf)), 20 * zbB a.l < sz → Ev cfg 124 [(dSl zao a), (.fn (.func 93) [] [])] (.int .i64 (zsi zia a))) ∧ (∀ (a : (Sl zaf)), 20 * zbB a.l + 1 < sz → Ev cfg 92 [(dSl zao a), (.fn (.func 93) [] [])] (.bool (zqX zia a)))
theorem zjd {c16 : Sl zam} {c17 : Sl zam} {c18 : Int} {c19 : Int} {c20 : Sl zaj} {c21 : Int} {c23 : zam} {sz : Nat} (hg : zx1 sz) {kk : Nat} : ∀ {k : Nat} {s22 : Int} {out : Out (Bool) (Int)}, zbR c16 c17 c18 c19 c20 c21 c23 sz kk k s22 = some out → ∃ N, ∀ n, N ≤ n → ∀ k, N ≤ k → ∀ (e : Env) (m : Mem), e 0 = (dSl zau c16) → zcS (e 4) m 4 2 (zau c23) → e 10 = (dSl zau c17) → e 11 = (.int .i64 c18) → e 12 = (.int .i64 c19) → e 40 = (dSl zaP c20) → e 41 = (.int .i64 c21) → e 42 = (.int .i64 s22) → ∀ (K : Ex → St → Option Res) (R : Option Res), zdF c16 c17 c18 c19 c20 c21 c23 K R out → zc0 (zbX cfg (dfn cfg n) n zos) K k ⟨e, m⟩ = R := by
 have ⟨_, hVA, _, _, _, _, _, _⟩ := hg
 intro k
 induction k with
 | zero => intro s22 out h; cases h
 | succ k ih => ?_
 intro s22 out h
 have ih := fun x0 {out} => @ih x0 out
 unfold zbR at h
 have E := evT
 rcases zae h with ⟨h1_, h⟩ | ⟨h1_, h⟩
 obtain ⟨y24, h2_, h⟩ := zaa h
 obtain ⟨_, h3_⟩ := zbK h2_
 have h3_ := zbs h3_ zaP
 have E := E.and (zir y24.atom)
 rcases zae h with ⟨h4_, h⟩ | ⟨h4_, h⟩
 obtain ⟨y25, h5_, h⟩ := zaa h
 obtain ⟨_, h6_⟩ := zbK h5_
 have h6_ := zbs h6_ zaP
 obtain ⟨_, h7_, h⟩ := zaa h
 have E := E.and (zlQ y25.atom y24.atom (zah h7_))
 rcases zae h with ⟨h8_, h⟩ | ⟨h8_, h⟩
 have b9_ := zar h8_
 obtain ⟨b10_, b11_⟩ := zca b9_
 obtain ⟨b12_, b13_⟩ := zca b10_
 rcases zcd b13_ with b14_ | ⟨b14_, b15_⟩
 obtain ⟨_, h16_, h⟩ := zaa h
 have E := E.and (hVA y24.atom (zah h16_))
 rcases zae h with ⟨h17_, h⟩ | ⟨h17_, h⟩
 have b18_ := zar h17_
 rotate_left
 have b19_ := zan h17_
 rotate_left
 obtain ⟨_, h20_, h⟩ := zaa h
 have E := E.and (hVA y24.atom (zah h20_))
 rcases zae h with ⟨h21_, h⟩ | ⟨h21_, h⟩
 have b22_ := zar h21_
 rotate_left
 have b23_ := zan h21_
 rotate_left
 have b24_ := zan h8_
 rcases zeP b24_ with b25_ | ⟨b25_, b26_⟩
 rcases zeP b25_ with b27_ | ⟨b27_, b28_⟩
 rcases Bool.eq_false_or_eq_true (((zrf y24.atom))) with h35_ | h35_
 rotate_left
 rotate_left
 obtain ⟨b29_, b30_⟩ := zcK b28_
 rotate_left
 obtain ⟨b31_, b32_⟩ := zca b25_
 rcases zcd b32_ with b33_ | ⟨b33_, b34_⟩
 rotate_left
 rotate_left
 rcases zae h with ⟨h36_, h⟩ | ⟨h36_, h⟩
 have b37_ := zar h36_
 obtain ⟨b38_, b39_⟩ := zca b37_
 rcases zcd b39_ with b40_ | ⟨b40_, b41_⟩
 obtain ⟨_, h42_, h⟩ := zaa h
 have E := E.and (hVA y24.atom (zah h42_))
 rcases zae h with ⟨h43_, h⟩ | ⟨h43_, h⟩
 have b44_ := zar h43_
 rotate_left
 have b45_ := zan h43_
 rotate_left
 obtain ⟨_, h46_, h⟩ := zaa h
 have E := E.and (hVA y24.atom (zah h46_))
 rcases zae h with ⟨h47_, h⟩ | ⟨h47_, h⟩
 have b48_ := zar h47_
 rotate_left
 have b49_ := zan h47_
 rotate_left
 have b50_ := zan h36_
 rcases zeP b50_ with b51_ | ⟨b51_, b52_⟩
 rcases Bool.eq_false_or_eq_true (((zrf y24.atom))) with h55_ | h55_
 rotate_left
 rotate_left
 obtain ⟨b53_, b54_⟩ := zcK b52_
 rotate_left
 rotate_left
 all_goals
  first | (obtain rfl := Option.some.inj h; refine E.l fun n k x => ?_) | refine E.c (ih _ h) fun n k x I => ?_
  intro e m i0 i1 i2 i3 i4 i5 i6 i7 K R hK
  obtain ⟨_, _, _⟩ := i1
  rw [zaB]
  (conv => lhs; arg 4; whnf)
  first | (simp -dsimp -implicitDefEqProofs only [go_sem, *, simprocAttr]; simp only [zdF] at hK; refine hK _ _ ?_; simp -dsimp -implicitDefEqProofs only [go_sem, *, simprocAttr]) | (simp -dsimp -implicitDefEqProofs only [go_sem, *, simprocAttr]; refine zai (I.1 _ _ ?_ ?_ ?_ ?_ ?_ ?_ ?_ ?_ _ _ hK); (iterate 8 (simp -dsimp -implicitDefEqProofs only [go_sem, *, simprocAttr]))) | (simp -dsimp -implicitDefEqProofs only [go_sem, *, simprocAttr]; simp only [zdF] at hK; refine hK _ _ ?_ ?_ ?_ ?_; (iterate 4 (simp -dsimp -implicitDefEqProofs only [go_sem, *, simprocAttr])))
def zgT (c7 : Sl zam) (c8 : Int) (c9 : Sl zam) (c10 : Int) (c11 : Int) (c12 : zam) (K : Ex → St → Option Res) (R : Option Res) (q : Bool) : Prop := ∀ (e : Env) (m : Mem), e 0 = (dSl zau c7) → zcS (e 4) m 4 2 (zau c12) → e 10 = (dSl zau c9) → e 11 = (.int .i64 c10) → e 12 = (.int .i64 c11) → e 38 = (.bool (q)) → K .normal ⟨e, m⟩ = R
noncomputable def zjn : Code := zb4 f21 [1, 1, 0, 1, 0, 0, 1, 1, 0, 0, 1, 0, 0]
theorem zoi {c7 : Sl zam} {c8 : Int} {c9 : Sl zam} {c10 : Int} {c11 : Int} {c12 : zam} {sz : Nat} (hg : zx1 sz) {kk : Nat} {out : Bool} (h : zfw c7 c8 c9 c10 c11 c12 sz kk = some out) : ∃ N, ∀ n, N ≤ n → ∀ (e : Env) (m : Mem), e 0 = (dSl zau c7) → e 3 = (.int .i64 c8) → zcS (e 4) m 4 2 (zau c12) → e 10 = (dSl zau c9) → e 11 = (.int .i64 c10) → e 12 = (.int .i64 c11) → ∀ (K : Ex → St → Option Res) (R : Option Res), zgT c7 c8 c9 c10 c11 c12 K R out → zbX cfg (dfn cfg n) n zjn K ⟨e, m⟩ = R := by
 unfold zfw at h
 have E := evT
 rcases zae h with ⟨h56_, h⟩ | ⟨h56_, h⟩
 obtain ⟨y13, h57_, h⟩ := zaa h
 obtain ⟨_, h58_⟩ := zbK h57_
 have h58_ := zbs h58_ zau
 obtain ⟨_, h59_, h⟩ := zaa h
 have E := E.and (zlO y13 c12 (zah h59_))
 rcases Bool.eq_false_or_eq_true ((decide (c12.coeff < 1))) with h60_ | h60_
 rotate_left
 rcases Bool.eq_false_or_eq_true ((decide (1152921504606846976 < c12.coeff))) with h61_ | h61_
 rotate_left
 rotate_left
 rcases zae h with ⟨h62_, h⟩ | ⟨h62_, h⟩
 have b63_ := zar h62_
 obtain ⟨b64_, b65_⟩ := zca b63_
 rotate_left
 have b66_ := zan h62_
 rcases zeP b66_ with b67_ | ⟨b67_, b68_⟩
 rotate_left
 rotate_left
 all_goals
  obtain rfl := Option.some.inj h
  refine E.j fun n x => ?_
  intro e m i0 i1 i2 i3 i4 i5 K R hK
  obtain ⟨_, _, _⟩ := i2
  (conv => lhs; arg 4; whnf)
  simp -dsimp -implicitDefEqProofs only [go_sem, *, simprocAttr]
  simp only [zgT] at hK
  refine hK _ _ ?_ ?_ ?_ ?_ ?_ ?_
  (iterate 6 (simp -dsimp -implicitDefEqProofs only [go_sem, *, simprocAttr]))
def zcM (c2 : Sl zam) (c3 : Sl zam) (c4 : Int) (K : Ex → St → Option Res) (R : Option Res) : Out (Bool) (Int) → Prop
 | .ret r => ∀ (e : Env) (m : Mem), e 2 = (.bool r) → K .ret ⟨e, m⟩ = R
 | .done q => ∀ (e : Env) (m : Mem), K (.exit 0) ⟨e, m⟩ = R
noncomputable def zot : Code := zb4 f21 [1, 1, 0, 1, 0, 0]
theorem zje {c2 : Sl zam} {c3 : Sl zam} {c4 : Int} {sz : Nat} (hg : zx1 sz) {kk : Nat} : ∀ {k : Nat} {s5 : Int} {out : Out (Bool) (Int)}, zb8 c2 c3 c4 sz kk k s5 = some out → ∃ N, ∀ n, N ≤ n → ∀ k, N ≤ k → ∀ (e : Env) (m : Mem), e 0 = (dSl zau c2) → e 10 = (dSl zau c3) → e 11 = (.int .i64 c4) → e 12 = (.int .i64 s5) → ∀ (K : Ex → St → Option Res) (R : Option Res), zcM c2 c3 c4 K R out → zc0 (zbX cfg (dfn cfg n) n zot) K k ⟨e, m⟩ = R := by
 intro k
 induction k with
 | zero => intro s5 out h; cases h
 | succ k ih => ?_
 intro s5 out h
 have ih := fun x0 {out} => @ih x0 out
 unfold zb8 at h
 have E := evT
 rcases zae h with ⟨h69_, h⟩ | ⟨h69_, h⟩
 obtain ⟨y6, h70_, h⟩ := zaa h
 obtain ⟨_, h71_⟩ := zbK h70_
 have h71_ := zbs h71_ zau
 obtain ⟨q15, o73_, h⟩ := zaa h
 obtain ⟨_, l72_, E⟩ := E.lj (zoi hg o73_)
 rcases zae h with ⟨h75_, h⟩ | ⟨h75_, h⟩
 rotate_left
 rcases zbj h with ⟨r78_, o77_, h⟩ | ⟨q29, o77_, h⟩
 obtain ⟨_, l76_, E⟩ := E.lp (zjd hg o77_)
 rotate_left
 obtain ⟨_, l79_, E⟩ := E.lp (zjd hg o77_)
 rotate_left
 rotate_left
 all_goals
  first | (obtain rfl := Option.some.inj h; refine E.l fun n k x => ?_) | refine E.c (ih _ h) fun n k x I => ?_
  intro e m i0 i1 i2 i3 K R hK
  have j0 := zgq cfg (dfn cfg n) n zjn
  (conv at j0 => intro k s; lhs; arg 4; whnf)
  rw [zaB]
  (conv => lhs; arg 4; whnf)
  first | (have := l72_; simp -dsimp -implicitDefEqProofs only [go_sem, ↓j0, *, simprocAttr]; refine zg5 (l72_.1 n (by omega) _ _ ?_ ?_ ?_ ?_ ?_ ?_ _ _ ?_); (iterate 6 (simp -dsimp -implicitDefEqProofs only [go_sem, *, simprocAttr])); simp only [zgT]; intro e m i0 i1 i2 i3 i4 i5; obtain ⟨_, _, _⟩ := i1; (first | (have := l76_; (try simp -dsimp -implicitDefEqProofs only [go_sem, ↓j0, *, simprocAttr]); refine zai (l76_.1 n (by omega) _ _ ?_ ?_ ?_ ?_ ?_ ?_ ?_ ?_ _ _ ?_); (iterate 8 (simp -dsimp -implicitDefEqProofs only [go_sem, *, simprocAttr])); simp only [zdF]; intro e m i0; (try simp -dsimp -implicitDefEqProofs only [go_sem, ↓j0, *, simprocAttr]); simp only [zcM] at hK; refine hK _ _ ?_; simp -dsimp -implicitDefEqProofs only [go_sem, *, simprocAttr]) | (have := l79_; (try simp -dsimp -implicitDefEqProofs only [go_sem, ↓j0, *, simprocAttr]); refine zai (l79_.1 n (by omega) _ _ ?_ ?_ ?_ ?_ ?_ ?_ ?_ ?_ _ _ ?_); (iterate 8 (simp -dsimp -implicitDefEqProofs only [go_sem, *, simprocAttr])); simp only [zdF]; intro e m i0 i1 i2 i3; (try simp -dsimp -implicitDefEqProofs only [go_sem, ↓j0, *, simprocAttr]); refine zai (I.1 _ _ ?_ ?_ ?_ ?_ _ _ hK); (iterate 4 (simp -dsimp -implicitDefEqProofs only [go_sem, *, simprocAttr]))) | ((try simp -dsimp -implicitDefEqProofs only [go_sem, ↓j0, *, simprocAttr]); simp only [zcM] at hK; refine hK _ _ ?_; simp -dsimp -implicitDefEqProofs only [go_sem, *, simprocAttr]))) | ((try simp -dsimp -implicitDefEqProofs only [go_sem, ↓j0, *, simprocAttr]); simp only [zcM] at hK; refine hK _ _)
theorem zqI {kk : Nat} {a : (Sl zam)} {sz : Nat} (hg : zx1 sz) {r : Bool} (h : zgB kk sz a = some r) : Ev cfg 21 [(dSl zau a)] (.bool r) := by
 unfold zgB at h
 have E := evT
 obtain ⟨_, h80_, h⟩ := zaa h
 have E := E.and (zpT a (zah h80_))
 rcases zae h with ⟨h81_, h⟩ | ⟨h81_, h⟩
 have b82_ := zar h81_
 rotate_left
 have b83_ := zan h81_
 rcases zbj h with ⟨r86_, o85_, h⟩ | ⟨q30, o85_, h⟩
 obtain ⟨_, l84_, E⟩ := E.lp (zje hg o85_)
 rotate_left
 obtain ⟨_, l87_, E⟩ := E.lp (zje hg o85_)
 rotate_left
 all_goals
  obtain rfl := Option.some.inj h
  refine E.s fun n x => ?_
  first | (have := l84_; simp -dsimp -implicitDefEqProofs only [go_sem, func21, f21, *, simprocAttr]; refine zai (l84_.1 n (by omega) _ _ ?_ ?_ ?_ ?_ _ _ ?_); (iterate 4 (simp -dsimp -implicitDefEqProofs only [go_sem, *, simprocAttr])); simp only [zcM]; intro e m i0; simp -dsimp -implicitDefEqProofs only [go_sem, func21, f21, *, simprocAttr]) | (have := l87_; simp -dsimp -implicitDefEqProofs only [go_sem, func21, f21, *, simprocAttr]; refine zai (l87_.1 n (by omega) _ _ ?_ ?_ ?_ ?_ _ _ ?_); (iterate 4 (simp -dsimp -implicitDefEqProofs only [go_sem, *, simprocAttr])); simp only [zcM]; intro e m; simp -dsimp -implicitDefEqProofs only [go_sem, func21, f21, *, simprocAttr]) | (simp -dsimp -implicitDefEqProofs only [go_sem, func21, f21, *, simprocAttr])
def zff (c3 : Bool) (c4 : zap) (K : Ex → St → Option Res) (R : Option Res) (q : Bool) : Prop := ∀ (e : Env) (m : Mem), zcS (e 1) m 1 10 (zcB c4) → e 46 = (.bool (q)) → K .normal ⟨e, m⟩ = R
noncomputable def zhB : Code := zb4 f46 [1, 1, 0, 0]
theorem zlA {c3 : Bool} {c4 : zap} {sz : Nat} (hg : zx1 sz) {kk : Nat} {out : Bool} (h : zdY c3 c4 sz kk = some out) : ∃ N, ∀ n, N ≤ n → ∀ (e : Env) (m : Mem), zcS (e 1) m 1 10 (zcB c4) → e 3 = (.bool (c3)) → ∀ (K : Ex → St → Option Res) (R : Option Res), zff c3 c4 K R out → zbX cfg (dfn cfg n) n zhB K ⟨e, m⟩ = R := by
 have ⟨_, _, _, _, hC1, _, _, _⟩ := hg
 unfold zdY at h
 have E := evT
 rcases zae h with ⟨h1_, h⟩ | ⟨h1_, h⟩
 have b2_ := zar h1_
 obtain ⟨b3_, b4_⟩ := zca b2_
 rcases zcd b4_ with b5_ | ⟨b5_, b6_⟩
 obtain ⟨_, h10_, h⟩ := zaa h
 have E := E.and (hC1 c4.args (zah h10_))
 rotate_left
 have b7_ := zan b6_
 obtain ⟨b8_, b9_⟩ := zcK b7_
 obtain ⟨_, h11_, h⟩ := zaa h
 have E := E.and (hC1 c4.args (zah h11_))
 rotate_left
 have b12_ := zan h1_
 rcases zeP b12_ with b13_ | ⟨b13_, b14_⟩
 rcases Bool.eq_false_or_eq_true ((c4.kind != 0)) with h20_ | h20_
 rotate_left
 rotate_left
 obtain ⟨b15_, b16_⟩ := zcK b14_
 have b17_ := zar b16_
 rcases zcd b17_ with b18_ | ⟨b18_, b19_⟩
 rotate_left
 rotate_left
 all_goals
  obtain rfl := Option.some.inj h
  refine E.j fun n x => ?_
  intro e m i0 i1 K R hK
  obtain ⟨_, _, _⟩ := i0
  (conv => lhs; arg 4; whnf)
  simp -dsimp -implicitDefEqProofs only [go_sem, *, simprocAttr]
  simp only [zff] at hK
  refine hK _ _ ?_ ?_
  (iterate 2 (simp -dsimp -implicitDefEqProofs only [go_sem, *, simprocAttr]))
def zfg (c1 : zap) (K : Ex → St → Option Res) (R : Option Res) (q : Bool) : Prop := ∀ (e : Env) (m : Mem), zcS (e 1) m 1 10 (zcB c1) → e 3 = (.bool (q)) → K .normal ⟨e, m⟩ = R
noncomputable def zhC : Code := zb4 f46 [1, 0]
theorem zlB {c1 : zap} {sz : Nat} (hg : zx1 sz) {kk : Nat} {out : Bool} (h : zdZ c1 sz kk = some out) : ∃ N, ∀ n, N ≤ n → ∀ (e : Env) (m : Mem), zcS (e 1) m 1 10 (zcB c1) → ∀ (K : Ex → St → Option Res) (R : Option Res), zfg c1 K R out → zbX cfg (dfn cfg n) n zhC K ⟨e, m⟩ = R := by
 unfold zdZ at h
 have E := evT
 rcases Bool.eq_false_or_eq_true ((c1.kind != 4)) with h21_ | h21_
 rcases Bool.eq_false_or_eq_true ((c1.func != 0)) with h22_ | h22_
 rotate_left
 rcases Bool.eq_false_or_eq_true (((c1.items.l.length : Int) != 0)) with h23_ | h23_
 rotate_left
 rcases Bool.eq_false_or_eq_true ((c1.op != 0)) with h24_ | h24_
 rotate_left
 rotate_left
 rcases Bool.eq_false_or_eq_true ((c1.func != 0)) with h25_ | h25_
 rotate_left
 rcases Bool.eq_false_or_eq_true (((c1.items.l.length : Int) != 0)) with h26_ | h26_
 rotate_left
 rcases Bool.eq_false_or_eq_true ((c1.op != 0)) with h27_ | h27_
 rotate_left
 rotate_left
 all_goals
  obtain rfl := Option.some.inj h
  refine E.j fun n x => ?_
  intro e m i0 K R hK
  obtain ⟨_, _, _⟩ := i0
  (conv => lhs; arg 4; whnf)
  simp -dsimp -implicitDefEqProofs only [go_sem, *, simprocAttr]
  simp only [zfg] at hK
  refine hK _ _ ?_ ?_
  (iterate 2 (simp -dsimp -implicitDefEqProofs only [go_sem, *, simprocAttr]))
theorem znq {kk : Nat} {a : zap} {sz : Nat} (hg : zx1 sz) {r : Bool} (h : zeQ kk sz a = some r) : Ev cfg 46 [(.agg (zcB a))] (.bool r) := by
 have ⟨_, _, _, _, _, _, _, hC2⟩ := hg
 unfold zeQ at h
 have E := evT
 obtain ⟨q2, o29_, h⟩ := zaa h
 obtain ⟨_, l28_, E⟩ := E.lj (zlB hg o29_)
 obtain ⟨q6, o32_, h⟩ := zaa h
 obtain ⟨_, l31_, E⟩ := E.lj (zlA hg o32_)
 rcases zae h with ⟨h34_, h⟩ | ⟨h34_, h⟩
 rotate_left
 rcases zae h with ⟨h35_, h⟩ | ⟨h35_, h⟩
 have E := E.and (zpp a.row)
 rcases Bool.eq_false_or_eq_true (((zhr a.row))) with h36_ | h36_
 rotate_left
 rotate_left
 rcases zae h with ⟨h37_, h⟩ | ⟨h37_, h⟩
 rcases zae h with ⟨h38_, h⟩ | ⟨h38_, h⟩
 obtain ⟨y7, h39_, h⟩ := zaa h
 have h39_ := zbs h39_ (cSl zau)
 obtain ⟨y8, h40_, h⟩ := zaa h
 have h40_ := zbs h40_ (cSl zau)
 obtain ⟨_, h41_, h⟩ := zaa h
 have E := E.and (zqV y7 y8 (zah h41_))
 rotate_left
 rotate_left
 rcases zae h with ⟨h42_, h⟩ | ⟨h42_, h⟩
 rcases zae h with ⟨h43_, h⟩ | ⟨h43_, h⟩
 obtain ⟨y10, h44_, h⟩ := zaa h
 have h44_ := zbs h44_ (cSl zau)
 have E := E.and (zm8 y10)
 have E := E.and (zpU y10)
 rcases Bool.eq_false_or_eq_true (((zgI y10))) with h45_ | h45_
 rotate_left
 rotate_left
 rotate_left
 rcases zae h with ⟨h46_, h⟩ | ⟨h46_, h⟩
 rcases zae h with ⟨h47_, h⟩ | ⟨h47_, h⟩
 obtain ⟨y11, h48_, h⟩ := zaa h
 have h48_ := zbs h48_ (cSl zau)
 obtain ⟨_, h49_, h⟩ := zaa h
 have E := E.and (zmh y11 (zah h49_))
 rotate_left
 rotate_left
 rcases zae h with ⟨h50_, h⟩ | ⟨h50_, h⟩
 obtain ⟨_, h51_, h⟩ := zaa h
 have E := E.and (hC2 a.items (zah h51_))
 rcases zae h with ⟨h52_, h⟩ | ⟨h52_, h⟩
 obtain ⟨b53_, b54_⟩ := zcK h52_
 obtain ⟨b55_, b56_⟩ := zcK b53_
 have b57_ := zar b54_
 obtain ⟨_, h58_, h⟩ := zaa h
 have E := E.and (zdI a.items (zah h58_))
 rcases zae h with ⟨h59_, h⟩ | ⟨h59_, h⟩
 obtain ⟨_, h60_, h⟩ := zaa h
 have E := E.and (zo4 a.func a.items a.op a.bound (zah h60_))
 rotate_left
 rotate_left
 rcases zcd h52_ with b61_ | ⟨b61_, b62_⟩
 rcases zcd b61_ with b63_ | ⟨b63_, b64_⟩
 rotate_left
 rotate_left
 obtain ⟨b65_, b66_⟩ := zcK b61_
 have b67_ := zan b62_
 rotate_left
 rotate_left
 all_goals
  obtain rfl := Option.some.inj h
  refine E.s fun n x => ?_
  have j0 := zgq cfg (dfn cfg n) n zhC
  (conv at j0 => intro k s; lhs; arg 4; whnf)
  have j1 := zgq cfg (dfn cfg n) n zhB
  (conv at j1 => intro k s; lhs; arg 4; whnf)
  simp -dsimp -implicitDefEqProofs only [go_sem, ↓j0, ↓j1, func46, f46, *, simprocAttr]
  refine zg5 (l28_.1 n (by omega) _ _ ?_ _ _ ?_)
  simp -dsimp -implicitDefEqProofs only [go_sem, *, simprocAttr]
  simp only [zfg]
  intro e m i0 i1
  obtain ⟨_, _, _⟩ := i0
  (try simp -dsimp -implicitDefEqProofs only [go_sem, ↓j0, ↓j1, func46, f46, *, simprocAttr])
  refine zg5 (l31_.1 n (by omega) _ _ ?_ ?_ _ _ ?_)
  (iterate 2 (simp -dsimp -implicitDefEqProofs only [go_sem, *, simprocAttr]))
  simp only [zff]
  intro e m i0 i1
  obtain ⟨_, _, _⟩ := i0
  simp -dsimp -implicitDefEqProofs only [go_sem, ↓j0, ↓j1, func46, f46, *, simprocAttr]
theorem zl6 {kk : Nat} {a : (Sl zam)} {sz : Nat} (hg : zx1 sz) {r : Bool} (h : zd1 kk sz a = some r) : Ev cfg 86 [(dSl zau a)] (.bool r) := by
 have ⟨hV, _, _, _, _, _, _, _⟩ := hg
 unfold zd1 at h
 have E := evT
 obtain ⟨_, h1_, h⟩ := zaa h
 have E := E.and (hV a (zah h1_))
 rcases Bool.eq_false_or_eq_true (((zdD a))) with h2_ | h2_
 rotate_left
 rotate_left
 all_goals
  obtain rfl := Option.some.inj h
  refine E.s fun n x => ?_
  simp -dsimp -implicitDefEqProofs only [go_sem, func86, f86, *, simprocAttr]
def zaH (c1 : Sl (Sl zam)) (c2 : Int) (K : Ex → St → Option Res) (R : Option Res) : Out (Int) (Int) → Prop
 | .ret r => ∀ (e : Env) (m : Mem), e 4 = (.int .i64 r) → K .ret ⟨e, m⟩ = R
 | .done q => ∀ (e : Env) (m : Mem), K (.exit 0) ⟨e, m⟩ = R
noncomputable def zdC : Code := zb4 f122 [1, 0, 1, 0, 0]
theorem zbV {c1 : Sl (Sl zam)} {c2 : Int} {sz : Nat} (hg : zx1 sz) {kk : Nat} : ∀ {k : Nat} {s3 : Int} {out : Out (Int) (Int)}, zaw c1 c2 sz kk k s3 = some out → ∃ N, ∀ n, N ≤ n → ∀ k, N ≤ k → ∀ (e : Env) (m : Mem), e 0 = (dSl (cSl zau) c1) → e 1 = (.fn (.func 86) [] []) → e 7 = (.int .i64 c2) → e 8 = (.int .i64 s3) → ∀ (K : Ex → St → Option Res) (R : Option Res), zaH c1 c2 K R out → zc0 (zbX cfg (dfn cfg n) n zdC) K k ⟨e, m⟩ = R := by
 have ⟨_, _, hB1, _, _, _, _, _⟩ := hg
 intro k
 induction k with
 | zero => intro s3 out h; cases h
 | succ k ih => ?_
 intro s3 out h
 have ih := fun x0 {out} => @ih x0 out
 unfold zaw at h
 have E := evT
 rcases zae h with ⟨h1_, h⟩ | ⟨h1_, h⟩
 obtain ⟨y4, h2_, h⟩ := zaa h
 obtain ⟨_, h3_⟩ := zbK h2_
 have h3_ := zbs h3_ (cSl zau)
 obtain ⟨_, h4_, h⟩ := zaa h
 have E := E.and (hB1 y4 (zah h4_))
 rcases zae h with ⟨h5_, h⟩ | ⟨h5_, h⟩
 rotate_left
 rotate_left
 rotate_left
 all_goals
  first | (obtain rfl := Option.some.inj h; refine E.l fun n k x => ?_) | refine E.c (ih _ h) fun n k x I => ?_
  intro e m i0 i1 i2 i3 K R hK
  rw [zaB]
  (conv => lhs; arg 4; whnf)
  first | (simp -dsimp -implicitDefEqProofs only [go_sem, *, simprocAttr]; simp only [zaH] at hK; refine hK _ _ ?_; simp -dsimp -implicitDefEqProofs only [go_sem, *, simprocAttr]) | (simp -dsimp -implicitDefEqProofs only [go_sem, *, simprocAttr]; refine zai (I.1 _ _ ?_ ?_ ?_ ?_ _ _ hK); (iterate 4 (simp -dsimp -implicitDefEqProofs only [go_sem, *, simprocAttr]))) | (simp -dsimp -implicitDefEqProofs only [go_sem, *, simprocAttr]; simp only [zaH] at hK; refine hK _ _)
theorem zd8 {kk : Nat} {a : (Sl (Sl zam))} {sz : Nat} (hg : zx1 sz) {r : Int} (h : za8 kk sz a = some r) : Ev cfg 122 [(dSl (cSl zau) a), (.fn (.func 86) [] [])] (.int .i64 r) := by
 unfold za8 at h
 have E := evT
 rcases zbj h with ⟨r8_, o7_, h⟩ | ⟨q6, o7_, h⟩
 obtain ⟨_, l6_, E⟩ := E.lp (zbV hg o7_)
 rotate_left
 obtain ⟨_, l9_, E⟩ := E.lp (zbV hg o7_)
 rotate_left
 all_goals
  obtain rfl := Option.some.inj h
  refine E.s fun n x => ?_
  first | (have := l6_; simp -dsimp -implicitDefEqProofs only [go_sem, func122, f122, *, simprocAttr]; refine zai (l6_.1 n (by omega) _ _ ?_ ?_ ?_ ?_ _ _ ?_); (iterate 4 (simp -dsimp -implicitDefEqProofs only [go_sem, *, simprocAttr])); simp only [zaH]; intro e m i0; simp -dsimp -implicitDefEqProofs only [go_sem, func122, f122, *, simprocAttr]) | (have := l9_; simp -dsimp -implicitDefEqProofs only [go_sem, func122, f122, *, simprocAttr]; refine zai (l9_.1 n (by omega) _ _ ?_ ?_ ?_ ?_ _ _ ?_); (iterate 4 (simp -dsimp -implicitDefEqProofs only [go_sem, *, simprocAttr])); simp only [zaH]; intro e m; simp -dsimp -implicitDefEqProofs only [go_sem, func122, f122, *, simprocAttr])
theorem zdu {kk : Nat} {a : (Sl (Sl zam))} {sz : Nat} (hg : zx1 sz) {r : Bool} (h : za0 kk sz a = some r) : Ev cfg 85 [(dSl (cSl zau) a), (.fn (.func 86) [] [])] (.bool r) := by
 have ⟨_, _, _, hI1, _, _, _, _⟩ := hg
 unfold za0 at h
 have E := evT
 obtain ⟨_, h1_, h⟩ := zaa h
 have E := E.and (hI1 a (zah h1_))
 obtain rfl := Option.some.inj h
 refine E.s fun n x => ?_
 simp -dsimp -implicitDefEqProofs only [go_sem, func85, f85, *, simprocAttr]
theorem zl5 {kk : Nat} {a : zaf} {sz : Nat} (hg : zx1 sz) {r : Bool} (h : zd0 kk sz a = some r) : Ev cfg 93 [(.agg (zao a))] (.bool r) := by
 have ⟨hV, _, _, _, _, _, _, _⟩ := hg
 unfold zd0 at h
 have E := evT
 obtain ⟨_, h1_, h⟩ := zaa h
 have E := E.and (hV a.ann (zah h1_))
 rcases Bool.eq_false_or_eq_true (((zdD a.ann))) with h2_ | h2_
 rotate_left
 rotate_left
 all_goals
  obtain rfl := Option.some.inj h
  refine E.s fun n x => ?_
  simp -dsimp -implicitDefEqProofs only [go_sem, func93, f93, *, simprocAttr]
def zaM (c1 : Sl zaf) (c2 : Int) (K : Ex → St → Option Res) (R : Option Res) : Out (Int) (Int) → Prop
 | .ret r => ∀ (e : Env) (m : Mem), e 4 = (.int .i64 r) → K .ret ⟨e, m⟩ = R
 | .done q => ∀ (e : Env) (m : Mem), K (.exit 0) ⟨e, m⟩ = R
noncomputable def zdT : Code := zb4 f124 [1, 0, 1, 0, 0]
theorem zb2 {c1 : Sl zaf} {c2 : Int} {sz : Nat} (hg : zx1 sz) {kk : Nat} : ∀ {k : Nat} {s3 : Int} {out : Out (Int) (Int)}, zaz c1 c2 sz kk k s3 = some out → ∃ N, ∀ n, N ≤ n → ∀ k, N ≤ k → ∀ (e : Env) (m : Mem), e 0 = (dSl zao c1) → e 1 = (.fn (.func 93) [] []) → e 7 = (.int .i64 c2) → e 8 = (.int .i64 s3) → ∀ (K : Ex → St → Option Res) (R : Option Res), zaM c1 c2 K R out → zc0 (zbX cfg (dfn cfg n) n zdT) K k ⟨e, m⟩ = R := by
 have ⟨_, _, _, _, _, hB2, _, _⟩ := hg
 intro k
 induction k with
 | zero => intro s3 out h; cases h
 | succ k ih => ?_
 intro s3 out h
 have ih := fun x0 {out} => @ih x0 out
 unfold zaz at h
 have E := evT
 rcases zae h with ⟨h1_, h⟩ | ⟨h1_, h⟩
 obtain ⟨y4, h2_, h⟩ := zaa h
 obtain ⟨_, h3_⟩ := zbK h2_
 have h3_ := zbs h3_ zao
 obtain ⟨_, h4_, h⟩ := zaa h
 have E := E.and (hB2 y4 (zah h4_))
 rcases zae h with ⟨h5_, h⟩ | ⟨h5_, h⟩
 rotate_left
 rotate_left
 rotate_left
 all_goals
  first | (obtain rfl := Option.some.inj h; refine E.l fun n k x => ?_) | refine E.c (ih _ h) fun n k x I => ?_
  intro e m i0 i1 i2 i3 K R hK
  rw [zaB]
  (conv => lhs; arg 4; whnf)
  first | (simp -dsimp -implicitDefEqProofs only [go_sem, *, simprocAttr]; simp only [zaM] at hK; refine hK _ _ ?_; simp -dsimp -implicitDefEqProofs only [go_sem, *, simprocAttr]) | (simp -dsimp -implicitDefEqProofs only [go_sem, *, simprocAttr]; refine zai (I.1 _ _ ?_ ?_ ?_ ?_ _ _ hK); (iterate 4 (simp -dsimp -implicitDefEqProofs only [go_sem, *, simprocAttr]))) | (simp -dsimp -implicitDefEqProofs only [go_sem, *, simprocAttr]; simp only [zaM] at hK; refine hK _ _)
theorem zek {kk : Nat} {a : (Sl zaf)} {sz : Nat} (hg : zx1 sz) {r : Int} (h : zbg kk sz a = some r) : Ev cfg 124 [(dSl zao a), (.fn (.func 93) [] [])] (.int .i64 r) := by
 unfold zbg at h
 have E := evT
 rcases zbj h with ⟨r8_, o7_, h⟩ | ⟨q6, o7_, h⟩
 obtain ⟨_, l6_, E⟩ := E.lp (zb2 hg o7_)
 rotate_left
 obtain ⟨_, l9_, E⟩ := E.lp (zb2 hg o7_)
 rotate_left
 all_goals
  obtain rfl := Option.some.inj h
  refine E.s fun n x => ?_
  first | (have := l6_; simp -dsimp -implicitDefEqProofs only [go_sem, func124, f124, *, simprocAttr]; refine zai (l6_.1 n (by omega) _ _ ?_ ?_ ?_ ?_ _ _ ?_); (iterate 4 (simp -dsimp -implicitDefEqProofs only [go_sem, *, simprocAttr])); simp only [zaM]; intro e m i0; simp -dsimp -implicitDefEqProofs only [go_sem, func124, f124, *, simprocAttr]) | (have := l9_; simp -dsimp -implicitDefEqProofs only [go_sem, func124, f124, *, simprocAttr]; refine zai (l9_.1 n (by omega) _ _ ?_ ?_ ?_ ?_ _ _ ?_); (iterate 4 (simp -dsimp -implicitDefEqProofs only [go_sem, *, simprocAttr])); simp only [zaM]; intro e m; simp -dsimp -implicitDefEqProofs only [go_sem, func124, f124, *, simprocAttr])
theorem zdJ {kk : Nat} {a : (Sl zaf)} {sz : Nat} (hg : zx1 sz) {r : Bool} (h : za4 kk sz a = some r) : Ev cfg 92 [(dSl zao a), (.fn (.func 93) [] [])] (.bool r) := by
 have ⟨_, _, _, _, _, _, hI2, _⟩ := hg
 unfold za4 at h
 have E := evT
 obtain ⟨_, h1_, h⟩ := zaa h
 have E := E.and (hI2 a (zah h1_))
 obtain rfl := Option.some.inj h
 refine E.s fun n x => ?_
 simp -dsimp -implicitDefEqProofs only [go_sem, func92, f92, *, simprocAttr]
theorem zwk : ∀ s : Nat, s < big → zx1 s := by
 intro s
 induction s with
 | zero => intro _; exact ⟨fun _ h => absurd h (by omega), fun _ h => absurd h (by omega), fun _ h => absurd h (by omega), fun _ h => absurd h (by omega), fun _ h => absurd h (by omega), fun _ h => absurd h (by omega), fun _ h => absurd h (by omega), fun _ h => absurd h (by omega)⟩
 | succ s ih =>
   intro hb
   have hg := ih (by omega)
   exact ⟨
    fun a h => zqI (sz := s) hg (zok (kk := s + 1) (sz := s) (by omega) (by omega) (by omega)),
    fun a h => znq (sz := s) hg (zlI (kk := s + 1) (sz := s) (by omega) (by omega) (by omega)),
    fun a h => zl6 (sz := s) hg (zkD (kk := s + 1) (sz := s) (by omega) (by omega) (by omega)),
    fun a h => zd8 (sz := s) hg (zdw (kk := s + 1) (sz := s) (by omega) (by omega) (by omega)),
    fun a h => zdu (sz := s) hg (zc1 (kk := s + 1) (sz := s) (by omega) (by omega) (by omega)),
    fun a h => zl5 (sz := s) hg (zkC (kk := s + 1) (sz := s) (by omega) (by omega) (by omega)),
    fun a h => zek (sz := s) hg (zdO (kk := s + 1) (sz := s) (by omega) (by omega) (by omega)),
    fun a h => zdJ (sz := s) hg (zdj (kk := s + 1) (sz := s) (by omega) (by omega) (by omega))⟩
theorem zis (a : (Sl zam)) (h : 20 * zal a.l + 1 < big - 1) : Ev cfg 21 [(dSl zau a)] (.bool (zdD a)) := (zwk (big - 1) (by unfold big; omega)).1 a h
end Go.Proofs.Tryz
set_option maxRecDepth 100000
set_option maxHeartbeats 4000000
set_option linter.unusedSimpArgs false
set_option linter.unusedVariables false
namespace Go.Proofs.Tryz
open Go.Ev
theorem ztQ {kk : Nat} {a : zcc} {r : Str} (h : zio kk a = some r) : Ev cfg 164 [(.agg (ze6 a))] (.str r) := by
 unfold zio at h
 have E := evT
 have E := E.and (zpp a)
 rcases zae h with ⟨h1_, h⟩ | ⟨h1_, h⟩
 have b2_ := zar h1_
 rotate_left
 have b3_ := zan h1_
 obtain ⟨_, h4_, h⟩ := zaa h
 have e5_ := ztb a.table (zah h4_)
 obtain ⟨_, h6_, h⟩ := zaa h
 have h6_ := zah h6_
 try simp -dsimp -implicitDefEqProofs only [go_sem, simprocAttr] at h6_
 obtain ⟨_, h7_, h⟩ := zaa h
 have h7_ := zah h7_
 try simp -dsimp -implicitDefEqProofs only [go_sem, simprocAttr] at h7_
 obtain ⟨_, h8_, h⟩ := zaa h
 have e9_ := ztb a.seq (zah h8_)
 obtain ⟨_, h10_, h⟩ := zaa h
 have h10_ := zah h10_
 try simp -dsimp -implicitDefEqProofs only [go_sem, simprocAttr] at h10_
 rotate_left
 all_goals
  obtain rfl := Option.some.inj h
  refine E.s fun n x => ?_
  simp -dsimp -implicitDefEqProofs only [go_sem, func164, f164, *, simprocAttr]
theorem ztV (a : zcc) (h : zAj a) : Ev cfg 164 [(.agg (ze6 a))] (.str (zqt a)) := ztQ (zqR 0 a h)
theorem zns {kk : Nat} {r : (Sl Str)} (h : zgx kk = some r) : Ev cfg 166 [] (dSl zpm r) := by
 unfold zgx at h
 have E := evT
 obtain rfl := Option.some.inj h
 refine E.s fun n x => ?_
 simp -dsimp -implicitDefEqProofs only [go_sem, func166, f166, *, simprocAttr]
theorem ziz  : Ev cfg 166 [] (dSl zpm (ziW )) := zns (zlK 0 )
theorem znr {kk : Nat} {r : (Sl Str)} (h : zgw kk = some r) : Ev cfg 167 [] (dSl zpm r) := by
 unfold zgw at h
 have E := evT
 obtain rfl := Option.some.inj h
 refine E.s fun n x => ?_
 simp -dsimp -implicitDefEqProofs only [go_sem, func167, f167, *, simprocAttr]
theorem ziy  : Ev cfg 167 [] (dSl zpm (zfr )) := znr (zlJ 0 )
theorem zun {kk : Nat} {a : Val} {r : Str} (h : zi0 kk a = some r) : Ev cfg 165 [(.agg (zfR a))] (.str r) := by
 unfold zi0 at h
 have E := evT
 have E := E.and (zhk a)
 rcases zae h with ⟨h1_, h⟩ | ⟨h1_, h⟩
 have b2_ := zar h1_
 rotate_left
 have b3_ := zan h1_
 rcases zae h with ⟨h4_, h⟩ | ⟨h4_, h⟩
 obtain ⟨_, h5_, h⟩ := zaa h
 have e6_ : zg4 [(.int .i64 a.int), (.int .i64 10)] = some (.str (zqp a.int 10)) := zlp a.int 10 (zah h5_)
 rotate_left
 rcases zae h with ⟨h7_, h⟩ | ⟨h7_, h⟩
 obtain ⟨_, h8_, h⟩ := zaa h
 have e9_ := zkk a.text [39] [39, 39] (zah h8_)
 obtain ⟨_, h10_, h⟩ := zaa h
 have h10_ := zah h10_
 try simp -dsimp -implicitDefEqProofs only [go_sem, simprocAttr] at h10_
 obtain ⟨_, h11_, h⟩ := zaa h
 have h11_ := zah h11_
 try simp -dsimp -implicitDefEqProofs only [go_sem, simprocAttr] at h11_
 rotate_left
 rcases zae h with ⟨h12_, h⟩ | ⟨h12_, h⟩
 rotate_left
 rotate_left
 all_goals
  obtain rfl := Option.some.inj h
  refine E.s fun n x => ?_
  simp -dsimp -implicitDefEqProofs only [go_sem, func165, f165, *, simprocAttr]
theorem zpo (a : Val) (h : zl2 a.int) : Ev cfg 165 [(.agg (zfR a))] (.str (zjD a)) := zun (zrJ 0 a h)
end Go.Proofs.Tryz
set_option maxRecDepth 100000
set_option maxHeartbeats 4000000
set_option linter.unusedSimpArgs false
set_option linter.unusedVariables false
namespace Go.Proofs.Tryz
open Go.Ev
def zft (c2 : Sl zam) (c3 : Int) (K : Ex → St → Option Res) (R : Option Res) : Out (Str) (List Str × Int) → Prop
 | .ret r => ∀ (e : Env) (m : Mem), e 2 = (.str r) → K .ret ⟨e, m⟩ = R
 | .done q => ∀ (e : Env) (m : Mem), zoU (e 3) m [25, 36, 46] 1 zpm q.1 → K (.exit 0) ⟨e, m⟩ = R
noncomputable def zo9 : Code := zb4 f50 [1, 1, 1, 0, 1, 0, 0]
abbrev zzi (sz : Nat) : Prop := (∀ (a : (Sl zam)), (zhl a.l = true ∧ zcl a.l ∧ zal a.l < lim ∧ 4 * zal a.l + 1 < sz) → Ev cfg 50 [(dSl zau a)] (.str (zeS a))) ∧ (∀ (a : (Sl zaj)), ((∀ f ∈ a.l, ziA f = true ∧ zgZ f) ∧ za1 a.l < lim ∧ 4 * za1 a.l + 2 < sz) → Ev cfg 97 [(dSl zaP a)] (.str (zp1 a))) ∧ (∀ (a : zap), (zmk a = true ∧ zk5 a ∧ zdp a < lim ∧ 4 * zdp a < sz) → Ev cfg 127 [(.agg (zcB a))] (.str (zjB a)))
theorem zjG {c2 : Sl zam} {c3 : Int} {sz : Nat} (hg : zzi sz) {kk : Nat} : ∀ {k : Nat} {s1 : List Str} {s4 : Int} {out : Out (Str) (List Str × Int)}, zbL c2 c3 sz kk k s1 s4 = some out → ∃ N, ∀ n, N ≤ n → ∀ k, N ≤ k → ∀ (e : Env) (m : Mem), zoU (e 3) m [25, 36, 46] 1 zpm s1 → e 9 = (dSl zau c2) → e 10 = (.int .i64 c3) → e 11 = (.int .i64 s4) → ∀ (K : Ex → St → Option Res) (R : Option Res), zft c2 c3 K R out → zc0 (zbX cfg (dfn cfg n) n zo9) K k ⟨e, m⟩ = R := by
 have ⟨_, hF, _⟩ := hg
 intro k
 induction k with
 | zero => intro s1 s4 out h; cases h
 | succ k ih => ?_
 intro s1 s4 out h
 have ih := fun x0 x1 {out} => @ih x0 x1 out
 unfold zbL at h
 have E := evT
 rcases zae h with ⟨h1_, h⟩ | ⟨h1_, h⟩
 obtain ⟨y5, h2_, h⟩ := zaa h
 obtain ⟨_, h3_⟩ := zbK h2_
 have h3_ := zbs h3_ zau
 rcases zae h with ⟨h4_, h⟩ | ⟨h4_, h⟩
 obtain ⟨_, h5_, h⟩ := zaa h
 have e6_ : zg4 [(.int .i64 y5.coeff), (.int .i64 10)] = some (.str (zqp y5.coeff 10)) := zlp y5.coeff 10 (zah h5_)
 obtain ⟨_, h7_, h⟩ := zaa h
 have h7_ := zah h7_
 try simp -dsimp -implicitDefEqProofs only [go_sem, simprocAttr] at h7_
 rotate_left
 rcases zae h with ⟨h8_, h⟩ | ⟨h8_, h⟩
 obtain ⟨_, h9_, h⟩ := zaa h
 have E := E.and (hF y5.factors (zah h9_))
 obtain ⟨_, h10_, h⟩ := zaa h
 have h10_ := zah h10_
 try simp -dsimp -implicitDefEqProofs only [go_sem, simprocAttr] at h10_
 rotate_left
 obtain ⟨_, h11_, h⟩ := zaa h
 have e12_ : zg4 [(.int .i64 y5.coeff), (.int .i64 10)] = some (.str (zqp y5.coeff 10)) := zlp y5.coeff 10 (zah h11_)
 obtain ⟨_, h13_, h⟩ := zaa h
 have h13_ := zah h13_
 try simp -dsimp -implicitDefEqProofs only [go_sem, simprocAttr] at h13_
 obtain ⟨_, h14_, h⟩ := zaa h
 have E := E.and (hF y5.factors (zah h14_))
 obtain ⟨_, h15_, h⟩ := zaa h
 have h15_ := zah h15_
 try simp -dsimp -implicitDefEqProofs only [go_sem, simprocAttr] at h15_
 obtain ⟨_, h16_, h⟩ := zaa h
 have h16_ := zah h16_
 try simp -dsimp -implicitDefEqProofs only [go_sem, simprocAttr] at h16_
 rotate_left
 rotate_left
 all_goals
  first | (obtain rfl := Option.some.inj h; refine E.l fun n k x => ?_) | refine E.c (ih _ _ h) fun n k x I => ?_
  intro e m i0 i1 i2 i3 K R hK
  rcases zFQ i0 with ⟨_, _⟩ | ⟨_, _, _, _⟩ | ⟨_, _, _, _⟩ | ⟨_, _, _, _⟩ <;> (rw [zaB]; (conv => lhs; arg 4; whnf); (first | (simp -dsimp -implicitDefEqProofs only [go_sem, *, simprocAttr]; refine zai (I.1 _ _ ?_ ?_ ?_ ?_ _ _ hK); (iterate 4 (simp -dsimp -implicitDefEqProofs only [go_sem, *, simprocAttr]))) | (simp -dsimp -implicitDefEqProofs only [go_sem, *, simprocAttr]; simp only [zft] at hK; refine hK _ _ ?_; simp -dsimp -implicitDefEqProofs only [go_sem, *, simprocAttr])))
theorem zrG {kk : Nat} {a : (Sl zam)} {sz : Nat} (hg : zzi sz) {r : Str} (h : zhi kk sz a = some r) : Ev cfg 50 [(dSl zau a)] (.str r) := by
 unfold zhi at h
 have E := evT
 rcases zae h with ⟨h17_, h⟩ | ⟨h17_, h⟩
 rotate_left
 rcases zbj h with ⟨r20_, o19_, h⟩ | ⟨q15, o19_, h⟩
 obtain ⟨_, l18_, E⟩ := E.lp (zjG hg o19_)
 rotate_left
 obtain ⟨_, l21_, E⟩ := E.lp (zjG hg o19_)
 obtain ⟨_, h22_, h⟩ := zaa h
 have e23_ := zta (Sl.out q15.1) [32, 43, 32] (zah h22_)
 rotate_left
 all_goals
  obtain rfl := Option.some.inj h
  refine E.s fun n x => ?_
  (try simp -dsimp -implicitDefEqProofs only [go_sem, *, simprocAttr] at e23_)
  first | (have := l18_; simp -dsimp -implicitDefEqProofs only [go_sem, func50, f50, *, simprocAttr]; refine zai (l18_.1 n (by omega) _ _ ?_ ?_ ?_ ?_ _ _ ?_); (iterate 4 (simp -dsimp -implicitDefEqProofs only [go_sem, *, simprocAttr])); simp only [zft]; intro e m i0; (try simp -dsimp -implicitDefEqProofs only [go_sem, *, simprocAttr] at e23_); simp -dsimp -implicitDefEqProofs only [go_sem, func50, f50, *, simprocAttr]) | (have := l21_; simp -dsimp -implicitDefEqProofs only [go_sem, func50, f50, *, simprocAttr]; refine zai (l21_.1 n (by omega) _ _ ?_ ?_ ?_ ?_ _ _ ?_); (iterate 4 (simp -dsimp -implicitDefEqProofs only [go_sem, *, simprocAttr])); simp only [zft]; intro e m i0; rcases zFQ i0 with ⟨_, _⟩ | ⟨_, _, _, _⟩ | ⟨_, _, _, _⟩ | ⟨_, _, _, _⟩ <;> ((try simp -dsimp -implicitDefEqProofs only [go_sem, *, simprocAttr] at e23_); (try simp -dsimp -implicitDefEqProofs only [go_sem, *, simprocAttr] at e23_); simp -dsimp -implicitDefEqProofs only [go_sem, func50, f50, *, simprocAttr])) | (simp -dsimp -implicitDefEqProofs only [go_sem, func50, f50, *, simprocAttr])
def zcC (c2 : Sl zaj) (c3 : Int) (K : Ex → St → Option Res) (R : Option Res) : Out (Str) (List Str × Int) → Prop
 | .ret r => ∀ (e : Env) (m : Mem), e 2 = (.str r) → K .ret ⟨e, m⟩ = R
 | .done q => ∀ (e : Env) (m : Mem), zoU (e 3) m [28] 1 zpm q.1 → K (.exit 0) ⟨e, m⟩ = R
noncomputable def zjz : Code := zb4 f97 [1, 1, 0, 1, 0, 0]
theorem zgl {c2 : Sl zaj} {c3 : Int} {sz : Nat} (hg : zzi sz) {kk : Nat} : ∀ {k : Nat} {s1 : List Str} {s4 : Int} {out : Out (Str) (List Str × Int)}, zbd c2 c3 sz kk k s1 s4 = some out → ∃ N, ∀ n, N ≤ n → ∀ k, N ≤ k → ∀ (e : Env) (m : Mem), zoU (e 3) m [28] 1 zpm s1 → e 7 = (dSl zaP c2) → e 8 = (.int .i64 c3) → e 9 = (.int .i64 s4) → ∀ (K : Ex → St → Option Res) (R : Option Res), zcC c2 c3 K R out → zc0 (zbX cfg (dfn cfg n) n zjz) K k ⟨e, m⟩ = R := by
 have ⟨_, _, hX⟩ := hg
 intro k
 induction k with
 | zero => intro s1 s4 out h; cases h
 | succ k ih => ?_
 intro s1 s4 out h
 have ih := fun x0 x1 {out} => @ih x0 x1 out
 unfold zbd at h
 have E := evT
 rcases zae h with ⟨h1_, h⟩ | ⟨h1_, h⟩
 obtain ⟨y5, h2_, h⟩ := zaa h
 obtain ⟨_, h3_⟩ := zbK h2_
 have h3_ := zbs h3_ zaP
 obtain ⟨_, h4_, h⟩ := zaa h
 have E := E.and (hX y5.atom (zah h4_))
 rcases zae h with ⟨h5_, h⟩ | ⟨h5_, h⟩
 obtain ⟨_, h6_, h⟩ := zaa h
 have e7_ := ztb y5.exp (zah h6_)
 obtain ⟨_, h8_, h⟩ := zaa h
 have h8_ := zah h8_
 try simp -dsimp -implicitDefEqProofs only [go_sem, simprocAttr] at h8_
 obtain ⟨_, h9_, h⟩ := zaa h
 have h9_ := zah h9_
 try simp -dsimp -implicitDefEqProofs only [go_sem, simprocAttr] at h9_
 obtain ⟨_, h10_, h⟩ := zaa h
 have h10_ := zah h10_
 try simp -dsimp -implicitDefEqProofs only [go_sem, simprocAttr] at h10_
 rotate_left
 obtain ⟨_, h11_, h⟩ := zaa h
 have h11_ := zah h11_
 try simp -dsimp -implicitDefEqProofs only [go_sem, simprocAttr] at h11_
 rotate_left
 rotate_left
 all_goals
  first | (obtain rfl := Option.some.inj h; refine E.l fun n k x => ?_) | refine E.c (ih _ _ h) fun n k x I => ?_
  intro e m i0 i1 i2 i3 K R hK
  rcases znY i0 with ⟨_, _⟩ | ⟨_, _, _, _⟩ <;> (rw [zaB]; (conv => lhs; arg 4; whnf); (first | (simp -dsimp -implicitDefEqProofs only [go_sem, *, simprocAttr]; refine zai (I.1 _ _ ?_ ?_ ?_ ?_ _ _ hK); (iterate 4 (simp -dsimp -implicitDefEqProofs only [go_sem, *, simprocAttr]))) | (simp -dsimp -implicitDefEqProofs only [go_sem, *, simprocAttr]; simp only [zcC] at hK; refine hK _ _ ?_; simp -dsimp -implicitDefEqProofs only [go_sem, *, simprocAttr])))
theorem zkU {kk : Nat} {a : (Sl zaj)} {sz : Nat} (hg : zzi sz) {r : Str} (h : zc9 kk sz a = some r) : Ev cfg 97 [(dSl zaP a)] (.str r) := by
 unfold zc9 at h
 have E := evT
 rcases zbj h with ⟨r14_, o13_, h⟩ | ⟨q12, o13_, h⟩
 obtain ⟨_, l12_, E⟩ := E.lp (zgl hg o13_)
 rotate_left
 obtain ⟨_, l15_, E⟩ := E.lp (zgl hg o13_)
 obtain ⟨_, h16_, h⟩ := zaa h
 have e17_ := zta (Sl.out q12.1) [42] (zah h16_)
 rotate_left
 all_goals
  obtain rfl := Option.some.inj h
  refine E.s fun n x => ?_
  (try simp -dsimp -implicitDefEqProofs only [go_sem, *, simprocAttr] at e17_)
  first | (have := l12_; simp -dsimp -implicitDefEqProofs only [go_sem, func97, f97, *, simprocAttr]; refine zai (l12_.1 n (by omega) _ _ ?_ ?_ ?_ ?_ _ _ ?_); (iterate 4 (simp -dsimp -implicitDefEqProofs only [go_sem, *, simprocAttr])); simp only [zcC]; intro e m i0; (try simp -dsimp -implicitDefEqProofs only [go_sem, *, simprocAttr] at e17_); simp -dsimp -implicitDefEqProofs only [go_sem, func97, f97, *, simprocAttr]) | (have := l15_; simp -dsimp -implicitDefEqProofs only [go_sem, func97, f97, *, simprocAttr]; refine zai (l15_.1 n (by omega) _ _ ?_ ?_ ?_ ?_ _ _ ?_); (iterate 4 (simp -dsimp -implicitDefEqProofs only [go_sem, *, simprocAttr])); simp only [zcC]; intro e m i0; rcases znY i0 with ⟨_, _⟩ | ⟨_, _, _, _⟩ <;> ((try simp -dsimp -implicitDefEqProofs only [go_sem, *, simprocAttr] at e17_); (try simp -dsimp -implicitDefEqProofs only [go_sem, *, simprocAttr] at e17_); simp -dsimp -implicitDefEqProofs only [go_sem, func97, f97, *, simprocAttr]))
def zc2 (c19 : Sl zaf) (c20 : Int) (c22 : zap) (K : Ex → St → Option Res) (R : Option Res) : Out (Str) (List Str × Int) → Prop
 | .ret r => ∀ (e : Env) (m : Mem), e 2 = (.str r) → K .ret ⟨e, m⟩ = R
 | .done q => ∀ (e : Env) (m : Mem), zcS (e 1) m 1 10 (zcB c22) → zoU (e 3) m [64] 1 zpm q.1 → K (.exit 1) ⟨e, m⟩ = R
noncomputable def zk3 : Code := zb4 f127 [1, 1, 1, 0, 1, 0, 0]
theorem zhm {c19 : Sl zaf} {c20 : Int} {c22 : zap} {sz : Nat} (hg : zzi sz) {kk : Nat} : ∀ {k : Nat} {s18 : List Str} {s21 : Int} {out : Out (Str) (List Str × Int)}, zbA c19 c20 c22 sz kk k s18 s21 = some out → ∃ N, ∀ n, N ≤ n → ∀ k, N ≤ k → ∀ (e : Env) (m : Mem), zcS (e 1) m 1 10 (zcB c22) → zoU (e 3) m [64] 1 zpm s18 → e 48 = (dSl zao c19) → e 49 = (.int .i64 c20) → e 50 = (.int .i64 s21) → ∀ (K : Ex → St → Option Res) (R : Option Res), zc2 c19 c20 c22 K R out → zc0 (zbX cfg (dfn cfg n) n zk3) K k ⟨e, m⟩ = R := by
 have ⟨hT, _, _⟩ := hg
 intro k
 induction k with
 | zero => intro s18 s21 out h; cases h
 | succ k ih => ?_
 intro s18 s21 out h
 have ih := fun x0 x1 {out} => @ih x0 x1 out
 unfold zbA at h
 have E := evT
 rcases zae h with ⟨h1_, h⟩ | ⟨h1_, h⟩
 obtain ⟨y23, h2_, h⟩ := zaa h
 obtain ⟨_, h3_⟩ := zbK h2_
 have h3_ := zbs h3_ zao
 obtain ⟨_, h4_, h⟩ := zaa h
 have E := E.and (zpo y23.value (zah h4_))
 obtain ⟨_, h5_, h⟩ := zaa h
 have h5_ := zah h5_
 try simp -dsimp -implicitDefEqProofs only [go_sem, simprocAttr] at h5_
 obtain ⟨_, h6_, h⟩ := zaa h
 have E := E.and (hT y23.ann (zah h6_))
 obtain ⟨_, h7_, h⟩ := zaa h
 have h7_ := zah h7_
 try simp -dsimp -implicitDefEqProofs only [go_sem, simprocAttr] at h7_
 obtain ⟨_, h8_, h⟩ := zaa h
 have h8_ := zah h8_
 try simp -dsimp -implicitDefEqProofs only [go_sem, simprocAttr] at h8_
 rotate_left
 rotate_left
 all_goals
  first | (obtain rfl := Option.some.inj h; refine E.l fun n k x => ?_) | refine E.c (ih _ _ h) fun n k x I => ?_
  intro e m i0 i1 i2 i3 i4 K R hK
  obtain ⟨_, _, _⟩ := i0
  rcases znY i1 with ⟨_, _⟩ | ⟨_, _, _, _⟩ <;> (rw [zaB]; (conv => lhs; arg 4; whnf); (first | (simp -dsimp -implicitDefEqProofs only [go_sem, *, simprocAttr]; refine zai (I.1 _ _ ?_ ?_ ?_ ?_ ?_ _ _ hK); (iterate 5 (simp -dsimp -implicitDefEqProofs only [go_sem, *, simprocAttr]))) | (simp -dsimp -implicitDefEqProofs only [go_sem, *, simprocAttr]; simp only [zc2] at hK; refine hK _ _ ?_ ?_; (iterate 2 (simp -dsimp -implicitDefEqProofs only [go_sem, *, simprocAttr])))))
theorem zmY {kk : Nat} {a : zap} {sz : Nat} (hg : zzi sz) {r : Str} (h : zet kk sz a = some r) : Ev cfg 127 [(.agg (zcB a))] (.str r) := by
 have ⟨hT, _, _⟩ := hg
 unfold zet at h
 have E := evT
 rcases zae h with ⟨h9_, h⟩ | ⟨h9_, h⟩
 obtain ⟨_, h10_, h⟩ := zaa h
 have E := E.and (ztV a.row (zah h10_))
 rotate_left
 rcases zae h with ⟨h11_, h⟩ | ⟨h11_, h⟩
 obtain ⟨y2, h12_, h⟩ := zaa h
 have h12_ := zbs h12_ (cSl zau)
 obtain ⟨_, h13_, h⟩ := zaa h
 have E := E.and (hT y2 (zah h13_))
 obtain ⟨_, h14_, h⟩ := zaa h
 have h14_ := zah h14_
 try simp -dsimp -implicitDefEqProofs only [go_sem, simprocAttr] at h14_
 obtain ⟨_, h15_, h⟩ := zaa h
 have h15_ := zah h15_
 try simp -dsimp -implicitDefEqProofs only [go_sem, simprocAttr] at h15_
 obtain ⟨y6, h16_, h⟩ := zaa h
 have h16_ := zbs h16_ (cSl zau)
 obtain ⟨_, h17_, h⟩ := zaa h
 have E := E.and (hT y6 (zah h17_))
 obtain ⟨_, h18_, h⟩ := zaa h
 have h18_ := zah h18_
 try simp -dsimp -implicitDefEqProofs only [go_sem, simprocAttr] at h18_
 obtain ⟨_, h19_, h⟩ := zaa h
 have h19_ := zah h19_
 try simp -dsimp -implicitDefEqProofs only [go_sem, simprocAttr] at h19_
 rotate_left
 rcases zae h with ⟨h20_, h⟩ | ⟨h20_, h⟩
 obtain ⟨y10, h21_, h⟩ := zaa h
 have h21_ := zbs h21_ (cSl zau)
 obtain ⟨_, h22_, h⟩ := zaa h
 have E := E.and (hT y10 (zah h22_))
 obtain ⟨_, h23_, h⟩ := zaa h
 have h23_ := zah h23_
 try simp -dsimp -implicitDefEqProofs only [go_sem, simprocAttr] at h23_
 obtain ⟨_, h24_, h⟩ := zaa h
 have h24_ := zah h24_
 try simp -dsimp -implicitDefEqProofs only [go_sem, simprocAttr] at h24_
 rotate_left
 rcases zae h with ⟨h25_, h⟩ | ⟨h25_, h⟩
 obtain ⟨y14, h26_, h⟩ := zaa h
 have h26_ := zbs h26_ (cSl zau)
 obtain ⟨_, h27_, h⟩ := zaa h
 have E := E.and (hT y14 (zah h27_))
 obtain ⟨_, h28_, h⟩ := zaa h
 have h28_ := zah h28_
 try simp -dsimp -implicitDefEqProofs only [go_sem, simprocAttr] at h28_
 obtain ⟨_, h29_, h⟩ := zaa h
 have h29_ := zah h29_
 try simp -dsimp -implicitDefEqProofs only [go_sem, simprocAttr] at h29_
 rotate_left
 rcases zbj h with ⟨r32_, o31_, h⟩ | ⟨q29, o31_, h⟩
 obtain ⟨_, l30_, E⟩ := E.lp (zhm hg o31_)
 rotate_left
 obtain ⟨_, l33_, E⟩ := E.lp (zhm hg o31_)
 have E := E.and (ziz )
 obtain ⟨y30, h34_, h⟩ := zaa h
 obtain ⟨_, h35_⟩ := zbK h34_
 have h35_ := zbs h35_ zpm
 obtain ⟨_, h36_, h⟩ := zaa h
 have h36_ := zah h36_
 try simp -dsimp -implicitDefEqProofs only [go_sem, simprocAttr] at h36_
 obtain ⟨_, h37_, h⟩ := zaa h
 have h37_ := zah h37_
 try simp -dsimp -implicitDefEqProofs only [go_sem, simprocAttr] at h37_
 obtain ⟨_, h38_, h⟩ := zaa h
 have e39_ := zta (Sl.out q29.1) [59, 32] (zah h38_)
 obtain ⟨_, h40_, h⟩ := zaa h
 have h40_ := zah h40_
 try simp -dsimp -implicitDefEqProofs only [go_sem, simprocAttr] at h40_
 obtain ⟨_, h41_, h⟩ := zaa h
 have h41_ := zah h41_
 try simp -dsimp -implicitDefEqProofs only [go_sem, simprocAttr] at h41_
 have E := E.and (ziy )
 obtain ⟨y36, h42_, h⟩ := zaa h
 obtain ⟨_, h43_⟩ := zbK h42_
 have h43_ := zbs h43_ zpm
 obtain ⟨_, h44_, h⟩ := zaa h
 have h44_ := zah h44_
 try simp -dsimp -implicitDefEqProofs only [go_sem, simprocAttr] at h44_
 obtain ⟨_, h45_, h⟩ := zaa h
 have h45_ := zah h45_
 try simp -dsimp -implicitDefEqProofs only [go_sem, simprocAttr] at h45_
 obtain ⟨_, h46_, h⟩ := zaa h
 have E := E.and (zpo a.bound (zah h46_))
 obtain ⟨_, h47_, h⟩ := zaa h
 have h47_ := zah h47_
 try simp -dsimp -implicitDefEqProofs only [go_sem, simprocAttr] at h47_
 obtain ⟨_, h48_, h⟩ := zaa h
 have h48_ := zah h48_
 try simp -dsimp -implicitDefEqProofs only [go_sem, simprocAttr] at h48_
 rotate_left
 all_goals
  obtain rfl := Option.some.inj h
  refine E.s fun n x => ?_
  (try simp -dsimp -implicitDefEqProofs only [go_sem, *, simprocAttr] at e39_)
  (try simp -dsimp -implicitDefEqProofs only [go_sem, *, simprocAttr] at h40_)
  (try simp -dsimp -implicitDefEqProofs only [go_sem, *, simprocAttr] at h41_)
  (try simp -dsimp -implicitDefEqProofs only [go_sem, *, simprocAttr] at h44_)
  (try simp -dsimp -implicitDefEqProofs only [go_sem, *, simprocAttr] at h45_)
  (try simp -dsimp -implicitDefEqProofs only [go_sem, *, simprocAttr] at h47_)
  (try simp -dsimp -implicitDefEqProofs only [go_sem, *, simprocAttr] at h48_)
  first | (have := l30_; simp -dsimp -implicitDefEqProofs only [go_sem, func127, f127, *, simprocAttr]; refine zai (l30_.1 n (by omega) _ _ ?_ ?_ ?_ ?_ ?_ _ _ ?_); (iterate 5 (simp -dsimp -implicitDefEqProofs only [go_sem, *, simprocAttr])); simp only [zc2]; intro e m i0; (try simp -dsimp -implicitDefEqProofs only [go_sem, *, simprocAttr] at e39_); (try simp -dsimp -implicitDefEqProofs only [go_sem, *, simprocAttr] at h40_); (try simp -dsimp -implicitDefEqProofs only [go_sem, *, simprocAttr] at h41_); (try simp -dsimp -implicitDefEqProofs only [go_sem, *, simprocAttr] at h44_); (try simp -dsimp -implicitDefEqProofs only [go_sem, *, simprocAttr] at h45_); (try simp -dsimp -implicitDefEqProofs only [go_sem, *, simprocAttr] at h47_); (try simp -dsimp -implicitDefEqProofs only [go_sem, *, simprocAttr] at h48_); simp -dsimp -implicitDefEqProofs only [go_sem, func127, f127, *, simprocAttr]) | (have := l33_; simp -dsimp -implicitDefEqProofs only [go_sem, func127, f127, *, simprocAttr]; refine zai (l33_.1 n (by omega) _ _ ?_ ?_ ?_ ?_ ?_ _ _ ?_); (iterate 5 (simp -dsimp -implicitDefEqProofs only [go_sem, *, simprocAttr])); simp only [zc2]; intro e m i0 i1; obtain ⟨_, _, _⟩ := i0; rcases znY i1 with ⟨_, _⟩ | ⟨_, _, _, _⟩ <;> ((try simp -dsimp -implicitDefEqProofs only [go_sem, *, simprocAttr] at e39_); (try simp -dsimp -implicitDefEqProofs only [go_sem, *, simprocAttr] at h40_); (try simp -dsimp -implicitDefEqProofs only [go_sem, *, simprocAttr] at h41_); (try simp -dsimp -implicitDefEqProofs only [go_sem, *, simprocAttr] at h44_); (try simp -dsimp -implicitDefEqProofs only [go_sem, *, simprocAttr] at h45_); (try simp -dsimp -implicitDefEqProofs only [go_sem, *, simprocAttr] at h47_); (try simp -dsimp -implicitDefEqProofs only [go_sem, *, simprocAttr] at h48_); (try simp -dsimp -implicitDefEqProofs only [go_sem, *, simprocAttr] at e39_); (try simp -dsimp -implicitDefEqProofs only [go_sem, *, simprocAttr] at h40_); (try simp -dsimp -implicitDefEqProofs only [go_sem, *, simprocAttr] at h41_); (try simp -dsimp -implicitDefEqProofs only [go_sem, *, simprocAttr] at h44_); (try simp -dsimp -implicitDefEqProofs only [go_sem, *, simprocAttr] at h45_); (try simp -dsimp -implicitDefEqProofs only [go_sem, *, simprocAttr] at h47_); (try simp -dsimp -implicitDefEqProofs only [go_sem, *, simprocAttr] at h48_); simp -dsimp -implicitDefEqProofs only [go_sem, func127, f127, *, simprocAttr])) | (simp -dsimp -implicitDefEqProofs only [go_sem, func127, f127, *, simprocAttr])
theorem zxN : ∀ s : Nat, s < big → zzi s := by
 intro s
 induction s with
 | zero => intro _; exact ⟨fun _ h => absurd h (by omega), fun _ h => absurd h (by omega), fun _ h => absurd h (by omega)⟩
 | succ s ih =>
   intro hb
   have hg := ih (by omega)
   exact ⟨
    fun a h => zrG (sz := s) hg (zo0 (kk := s + 1) (sz := s) (by omega) (by omega) (by omega)),
    fun a h => zkU (sz := s) hg (zjy (kk := s + 1) (sz := s) (by omega) (by omega) (by omega)),
    fun a h => zmY (sz := s) hg (zkZ (kk := s + 1) (sz := s) (by omega) (by omega) (by omega))⟩
theorem zmg (a : (Sl zam)) (h : (zhl a.l = true ∧ zcl a.l ∧ zal a.l < lim ∧ 4 * zal a.l + 1 < big - 1)) : Ev cfg 50 [(dSl zau a)] (.str (zeS a)) := (zxN (big - 1) (by unfold big; omega)).1 a h
end Go.Proofs.Tryz
set_option maxRecDepth 100000
set_option maxHeartbeats 4000000
set_option linter.unusedSimpArgs false
set_option linter.unusedVariables false
namespace Go.Proofs.Tryz
open Go.Ev
end Go.Proofs.Tryz
