/- Part of a proof. -/
import Derived.Test.YtaadpbhondmahaaGreatDoorProg
import Derived.KernelRfl
import Derived.Test.YtaadpbhondmahaaGreatDoorT2
set_option linter.all false
namespace Go.Proofs.Tryz
open Go.Ev
@[go_sem] theorem ti1 : zcG prog 1 = some ⟨.func, 1, 8, [.nilf]⟩ := by kernel_rfl
@[go_sem] theorem ko1 : kOf prog 1 = some (.func) := by kernel_rfl
@[go_sem] theorem ti2 : zcG prog 2 = some ⟨.int .i64, 1, 8, [.int .i64 0]⟩ := by kernel_rfl
@[go_sem] theorem ko2 : kOf prog 2 = some (.int .i64) := by kernel_rfl
@[go_sem] theorem ti3 : zcG prog 3 = some ⟨.int .i64, 1, 8, [.int .i64 0]⟩ := by kernel_rfl
@[go_sem] theorem ko3 : kOf prog 3 = some (.int .i64) := by kernel_rfl
@[go_sem] theorem ti4 : zcG prog 4 = some ⟨.bool, 1, 1, [.bool false]⟩ := by kernel_rfl
@[go_sem] theorem ko4 : kOf prog 4 = some (.bool) := by kernel_rfl
@[go_sem] theorem ti5 : zcG prog 5 = some ⟨.int .u8, 1, 1, [.int .u8 0]⟩ := by kernel_rfl
@[go_sem] theorem ko5 : kOf prog 5 = some (.int .u8) := by kernel_rfl
@[go_sem] theorem ti6 : zcG prog 6 = some ⟨.int .u8, 1, 1, [.int .u8 0]⟩ := by kernel_rfl
@[go_sem] theorem ko6 : kOf prog 6 = some (.int .u8) := by kernel_rfl
@[go_sem] theorem ti9 : zcG prog 9 = some ⟨.str, 1, 16, [.str []]⟩ := by kernel_rfl
@[go_sem] theorem ko9 : kOf prog 9 = some (.str) := by kernel_rfl
@[go_sem] theorem zU3 : zcG prog 20 = some ⟨.iface, 1, 16, [.nili]⟩ := by kernel_rfl
@[go_sem] theorem zVN : kOf prog 20 = some (.iface) := by kernel_rfl
@[go_sem] theorem zU2 : zcG prog 21 = some ⟨.int .i32, 1, 4, [.int .i32 0]⟩ := by kernel_rfl
@[go_sem] theorem zVM : kOf prog 21 = some (.int .i32) := by kernel_rfl
@[go_sem] theorem zU1 : zcG prog 22 = some ⟨.slice 40, 1, 24, [.sl .nil []]⟩ := by kernel_rfl
@[go_sem] theorem zVL : kOf prog 22 = some (.slice 40) := by kernel_rfl
@[go_sem] theorem zU0 : zcG prog 23 = some ⟨.slice 74, 1, 24, [.sl .nil []]⟩ := by kernel_rfl
@[go_sem] theorem zVK : kOf prog 23 = some (.slice 74) := by kernel_rfl
@[go_sem] theorem zUZ : zcG prog 24 = some ⟨.slice 74, 1, 24, [.sl .nil []]⟩ := by kernel_rfl
@[go_sem] theorem zVJ : kOf prog 24 = some (.slice 74) := by kernel_rfl
@[go_sem] theorem zUY : zcG prog 25 = some ⟨.struct [(22, 0), (24, 1)], 2, 48, zjZ zhF.zero⟩ := by kernel_rfl
@[go_sem] theorem zVI : kOf prog 25 = some (.struct [(22, 0), (24, 1)]) := by kernel_rfl
@[go_sem] theorem zUX : zcG prog 26 = some ⟨.struct [(22, 0), (24, 1)], 2, 48, zjZ zhF.zero⟩ := by kernel_rfl
@[go_sem] theorem zVH : kOf prog 26 = some (.struct [(22, 0), (24, 1)]) := by kernel_rfl
@[go_sem] theorem zUW : zcG prog 27 = some ⟨.slice 5, 1, 24, [.sl .nil []]⟩ := by kernel_rfl
@[go_sem] theorem zVG : kOf prog 27 = some (.slice 5) := by kernel_rfl
@[go_sem] theorem zUV : zcG prog 30 = some ⟨.slice 26, 1, 24, [.sl .nil []]⟩ := by kernel_rfl
@[go_sem] theorem zVF : kOf prog 30 = some (.slice 26) := by kernel_rfl
@[go_sem] theorem zUU : zcG prog 31 = some ⟨.int .i64, 1, 8, [.int .i64 0]⟩ := by kernel_rfl
@[go_sem] theorem zVE : kOf prog 31 = some (.int .i64) := by kernel_rfl
@[go_sem] theorem zUT : zcG prog 39 = some ⟨.struct [(3, 0), (2, 1), (9, 2)], 3, 32, zfR Val.zero⟩ := by kernel_rfl
@[go_sem] theorem zVD : kOf prog 39 = some (.struct [(3, 0), (2, 1), (9, 2)]) := by kernel_rfl
@[go_sem] theorem zUS : zcG prog 40 = some ⟨.struct [(3, 0), (2, 1), (9, 2)], 3, 32, zfR Val.zero⟩ := by kernel_rfl
@[go_sem] theorem zVC : kOf prog 40 = some (.struct [(3, 0), (2, 1), (9, 2)]) := by kernel_rfl
@[go_sem] theorem zVR : zvT prog 40 = true := by kernel_rfl
@[go_sem] theorem zUR : zcG prog 42 = some ⟨.ptr, 1, 8, [.nilp]⟩ := by kernel_rfl
@[go_sem] theorem zVB : kOf prog 42 = some (.ptr) := by kernel_rfl
@[go_sem] theorem zUQ : zcG prog 43 = some ⟨.ptr, 1, 8, [.nilp]⟩ := by kernel_rfl
@[go_sem] theorem zVA : kOf prog 43 = some (.ptr) := by kernel_rfl
@[go_sem] theorem zUP : zcG prog 45 = some ⟨.func, 1, 8, [.nilf]⟩ := by kernel_rfl
@[go_sem] theorem zVz : kOf prog 45 = some (.func) := by kernel_rfl
@[go_sem] theorem zUO : zcG prog 49 = some ⟨.func, 1, 8, [.nilf]⟩ := by kernel_rfl
@[go_sem] theorem zVy : kOf prog 49 = some (.func) := by kernel_rfl
@[go_sem] theorem zUN : zcG prog 50 = some ⟨.func, 1, 8, [.nilf]⟩ := by kernel_rfl
@[go_sem] theorem zVx : kOf prog 50 = some (.func) := by kernel_rfl
@[go_sem] theorem zUM : zcG prog 51 = some ⟨.func, 1, 8, [.nilf]⟩ := by kernel_rfl
@[go_sem] theorem zVw : kOf prog 51 = some (.func) := by kernel_rfl
@[go_sem] theorem zUL : zcG prog 52 = some ⟨.func, 1, 8, [.nilf]⟩ := by kernel_rfl
@[go_sem] theorem zVv : kOf prog 52 = some (.func) := by kernel_rfl
@[go_sem] theorem zUK : zcG prog 53 = some ⟨.slice 88, 1, 24, [.sl .nil []]⟩ := by kernel_rfl
@[go_sem] theorem zVu : kOf prog 53 = some (.slice 88) := by kernel_rfl
@[go_sem] theorem zUJ : zcG prog 54 = some ⟨.struct [(53, 0), (30, 1)], 2, 48, zh8 zf7.zero⟩ := by kernel_rfl
@[go_sem] theorem zVt : kOf prog 54 = some (.struct [(53, 0), (30, 1)]) := by kernel_rfl
@[go_sem] theorem zUI : zcG prog 55 = some ⟨.struct [(53, 0), (30, 1)], 2, 48, zh8 zf7.zero⟩ := by kernel_rfl
@[go_sem] theorem zVs : kOf prog 55 = some (.struct [(53, 0), (30, 1)]) := by kernel_rfl
@[go_sem] theorem zUH : zcG prog 56 = some ⟨.func, 1, 8, [.nilf]⟩ := by kernel_rfl
@[go_sem] theorem zVr : kOf prog 56 = some (.func) := by kernel_rfl
@[go_sem] theorem zUG : zcG prog 57 = some ⟨.func, 1, 8, [.nilf]⟩ := by kernel_rfl
@[go_sem] theorem zVq : kOf prog 57 = some (.func) := by kernel_rfl
@[go_sem] theorem zUF : zcG prog 58 = some ⟨.func, 1, 8, [.nilf]⟩ := by kernel_rfl
@[go_sem] theorem zVp : kOf prog 58 = some (.func) := by kernel_rfl
@[go_sem] theorem zUE : zcG prog 65 = some ⟨.func, 1, 8, [.nilf]⟩ := by kernel_rfl
@[go_sem] theorem zVo : kOf prog 65 = some (.func) := by kernel_rfl
@[go_sem] theorem zUD : zcG prog 69 = some ⟨.func, 1, 8, [.nilf]⟩ := by kernel_rfl
@[go_sem] theorem zVn : kOf prog 69 = some (.func) := by kernel_rfl
@[go_sem] theorem zUC : zcG prog 70 = some ⟨.func, 1, 8, [.nilf]⟩ := by kernel_rfl
@[go_sem] theorem zVm : kOf prog 70 = some (.func) := by kernel_rfl
@[go_sem] theorem zUB : zcG prog 72 = some ⟨.slice 100, 1, 24, [.sl .nil []]⟩ := by kernel_rfl
@[go_sem] theorem zVl : kOf prog 72 = some (.slice 100) := by kernel_rfl
@[go_sem] theorem zUA : zcG prog 73 = some ⟨.struct [(2, 0), (72, 1)], 2, 32, zau zam.zero⟩ := by kernel_rfl
@[go_sem] theorem zVk : kOf prog 73 = some (.struct [(2, 0), (72, 1)]) := by kernel_rfl
@[go_sem] theorem zUz : zcG prog 74 = some ⟨.struct [(2, 0), (72, 1)], 2, 32, zau zam.zero⟩ := by kernel_rfl
@[go_sem] theorem zVj : kOf prog 74 = some (.struct [(2, 0), (72, 1)]) := by kernel_rfl
@[go_sem] theorem zUy : zcG prog 76 = some ⟨.func, 1, 8, [.nilf]⟩ := by kernel_rfl
@[go_sem] theorem zVi : kOf prog 76 = some (.func) := by kernel_rfl
@[go_sem] theorem zUx : zcG prog 78 = some ⟨.map 3 83, 1, 8, [.nilm]⟩ := by kernel_rfl
@[go_sem] theorem zVh : kOf prog 78 = some (.map 3 83) := by kernel_rfl
@[go_sem] theorem zUw : zcG prog 82 = some ⟨.struct [(3, 0), (3, 1), (3, 2)], 3, 24, zfH zda.zero⟩ := by kernel_rfl
@[go_sem] theorem zVg : kOf prog 82 = some (.struct [(3, 0), (3, 1), (3, 2)]) := by kernel_rfl
@[go_sem] theorem zUv : zcG prog 83 = some ⟨.struct [(3, 0), (3, 1), (3, 2)], 3, 24, zfH zda.zero⟩ := by kernel_rfl
@[go_sem] theorem zVf : kOf prog 83 = some (.struct [(3, 0), (3, 1), (3, 2)]) := by kernel_rfl
@[go_sem] theorem zVQ : zvT prog 83 = true := by kernel_rfl
@[go_sem] theorem zUu : zcG prog 85 = some ⟨.func, 1, 8, [.nilf]⟩ := by kernel_rfl
@[go_sem] theorem zVe : kOf prog 85 = some (.func) := by kernel_rfl
@[go_sem] theorem zUt : zcG prog 87 = some ⟨.struct [(9, 0), (3, 1)], 2, 24, ziQ zjl.zero⟩ := by kernel_rfl
@[go_sem] theorem zVd : kOf prog 87 = some (.struct [(9, 0), (3, 1)]) := by kernel_rfl
@[go_sem] theorem zUs : zcG prog 88 = some ⟨.struct [(9, 0), (3, 1)], 2, 24, ziQ zjl.zero⟩ := by kernel_rfl
@[go_sem] theorem zVc : kOf prog 88 = some (.struct [(9, 0), (3, 1)]) := by kernel_rfl
@[go_sem] theorem zVP : zvT prog 88 = true := by kernel_rfl
@[go_sem] theorem zUr : zcG prog 92 = some ⟨.func, 1, 8, [.nilf]⟩ := by kernel_rfl
@[go_sem] theorem zVb : kOf prog 92 = some (.func) := by kernel_rfl
@[go_sem] theorem zUq : zcG prog 93 = some ⟨.struct [(3, 0), (3, 1)], 2, 16, ze6 zcc.zero⟩ := by kernel_rfl
@[go_sem] theorem zVa : kOf prog 93 = some (.struct [(3, 0), (3, 1)]) := by kernel_rfl
@[go_sem] theorem zUp : zcG prog 94 = some ⟨.struct [(3, 0), (3, 1)], 2, 16, ze6 zcc.zero⟩ := by kernel_rfl
@[go_sem] theorem zU9 : kOf prog 94 = some (.struct [(3, 0), (3, 1)]) := by kernel_rfl
@[go_sem] theorem zVO : zvT prog 94 = true := by kernel_rfl
@[go_sem] theorem zUo : zcG prog 95 = some ⟨.slice 24, 1, 24, [.sl .nil []]⟩ := by kernel_rfl
@[go_sem] theorem zU8 : kOf prog 95 = some (.slice 24) := by kernel_rfl
@[go_sem] theorem zUn : zcG prog 96 = some ⟨.slice 146, 1, 24, [.sl .nil []]⟩ := by kernel_rfl
@[go_sem] theorem zU7 : kOf prog 96 = some (.slice 146) := by kernel_rfl
@[go_sem] theorem zUm : zcG prog 97 = some ⟨.struct [(3, 0), (94, 1), (95, 3), (3, 4), (96, 5), (3, 6), (40, 7)], 10, 120, zcB zap.zero⟩ := by kernel_rfl
@[go_sem] theorem zU6 : kOf prog 97 = some (.struct [(3, 0), (94, 1), (95, 3), (3, 4), (96, 5), (3, 6), (40, 7)]) := by kernel_rfl
@[go_sem] theorem zUl : zcG prog 98 = some ⟨.struct [(3, 0), (94, 1), (95, 3), (3, 4), (96, 5), (3, 6), (40, 7)], 10, 120, zcB zap.zero⟩ := by kernel_rfl
@[go_sem] theorem zU5 : kOf prog 98 = some (.struct [(3, 0), (94, 1), (95, 3), (3, 4), (96, 5), (3, 6), (40, 7)]) := by kernel_rfl
@[go_sem] theorem zUk : zcG prog 99 = some ⟨.struct [(98, 0), (3, 10)], 11, 128, zaP zaj.zero⟩ := by kernel_rfl
@[go_sem] theorem zU4 : kOf prog 99 = some (.struct [(98, 0), (3, 10)]) := by kernel_rfl
@[go_sem] theorem zS2 : zcG prog 100 = some ⟨.struct [(98, 0), (3, 10)], 11, 128, zaP zaj.zero⟩ := by kernel_rfl
@[go_sem] theorem zTK : kOf prog 100 = some (.struct [(98, 0), (3, 10)]) := by kernel_rfl
@[go_sem] theorem zS1 : zcG prog 101 = some ⟨.func, 1, 8, [.nilf]⟩ := by kernel_rfl
@[go_sem] theorem zTJ : kOf prog 101 = some (.func) := by kernel_rfl
@[go_sem] theorem zS0 : zcG prog 102 = some ⟨.func, 1, 8, [.nilf]⟩ := by kernel_rfl
@[go_sem] theorem zTI : kOf prog 102 = some (.func) := by kernel_rfl
@[go_sem] theorem zSZ : zcG prog 103 = some ⟨.func, 1, 8, [.nilf]⟩ := by kernel_rfl
@[go_sem] theorem zTH : kOf prog 103 = some (.func) := by kernel_rfl
@[go_sem] theorem zSY : zcG prog 104 = some ⟨.int .u64, 1, 8, [.int .u64 0]⟩ := by kernel_rfl
@[go_sem] theorem zTG : kOf prog 104 = some (.int .u64) := by kernel_rfl
@[go_sem] theorem zSX : zcG prog 105 = some ⟨.func, 1, 8, [.nilf]⟩ := by kernel_rfl
@[go_sem] theorem zTF : kOf prog 105 = some (.func) := by kernel_rfl
@[go_sem] theorem zSW : zcG prog 108 = some ⟨.func, 1, 8, [.nilf]⟩ := by kernel_rfl
@[go_sem] theorem zTE : kOf prog 108 = some (.func) := by kernel_rfl
@[go_sem] theorem zSV : zcG prog 110 = some ⟨.func, 1, 8, [.nilf]⟩ := by kernel_rfl
@[go_sem] theorem zTD : kOf prog 110 = some (.func) := by kernel_rfl
@[go_sem] theorem zSU : zcG prog 111 = some ⟨.ptr, 1, 8, [.nilp]⟩ := by kernel_rfl
@[go_sem] theorem zTC : kOf prog 111 = some (.ptr) := by kernel_rfl
@[go_sem] theorem zST : zcG prog 112 = some ⟨.struct [(9, 0)], 1, 16, zac zab.zero⟩ := by kernel_rfl
@[go_sem] theorem zTB : kOf prog 112 = some (.struct [(9, 0)]) := by kernel_rfl
@[go_sem] theorem zSS : zcG prog 113 = some ⟨.struct [(9, 0)], 1, 16, zac zab.zero⟩ := by kernel_rfl
@[go_sem] theorem zTA : kOf prog 113 = some (.struct [(9, 0)]) := by kernel_rfl
@[go_sem] theorem zTO : zvT prog 113 = true := by kernel_rfl
@[go_sem] theorem zSR : zcG prog 115 = some ⟨.func, 1, 8, [.nilf]⟩ := by kernel_rfl
@[go_sem] theorem zTz : kOf prog 115 = some (.func) := by kernel_rfl
@[go_sem] theorem zSQ : zcG prog 116 = some ⟨.func, 1, 8, [.nilf]⟩ := by kernel_rfl
@[go_sem] theorem zTy : kOf prog 116 = some (.func) := by kernel_rfl
@[go_sem] theorem zSP : zcG prog 117 = some ⟨.func, 1, 8, [.nilf]⟩ := by kernel_rfl
@[go_sem] theorem zTx : kOf prog 117 = some (.func) := by kernel_rfl
@[go_sem] theorem zSO : zcG prog 118 = some ⟨.slice 132, 1, 24, [.sl .nil []]⟩ := by kernel_rfl
@[go_sem] theorem zTw : kOf prog 118 = some (.slice 132) := by kernel_rfl
@[go_sem] theorem zSN : zcG prog 119 = some ⟨.struct [(27, 0), (118, 1), (3, 2), (4, 3)], 4, 64, zg8 zcV.zero⟩ := by kernel_rfl
@[go_sem] theorem zTv : kOf prog 119 = some (.struct [(27, 0), (118, 1), (3, 2), (4, 3)]) := by kernel_rfl
@[go_sem] theorem zSM : zcG prog 120 = some ⟨.struct [(27, 0), (118, 1), (3, 2), (4, 3)], 4, 64, zg8 zcV.zero⟩ := by kernel_rfl
@[go_sem] theorem zTu : kOf prog 120 = some (.struct [(27, 0), (118, 1), (3, 2), (4, 3)]) := by kernel_rfl
@[go_sem] theorem zSL : zcG prog 125 = some ⟨.func, 1, 8, [.nilf]⟩ := by kernel_rfl
@[go_sem] theorem zTt : kOf prog 125 = some (.func) := by kernel_rfl
@[go_sem] theorem zSK : zcG prog 131 = some ⟨.struct [(3, 0), (27, 1)], 2, 32, zeF zcX.zero⟩ := by kernel_rfl
@[go_sem] theorem zTs : kOf prog 131 = some (.struct [(3, 0), (27, 1)]) := by kernel_rfl
@[go_sem] theorem zSJ : zcG prog 132 = some ⟨.struct [(3, 0), (27, 1)], 2, 32, zeF zcX.zero⟩ := by kernel_rfl
@[go_sem] theorem zTr : kOf prog 132 = some (.struct [(3, 0), (27, 1)]) := by kernel_rfl
@[go_sem] theorem zSI : zcG prog 137 = some ⟨.func, 1, 8, [.nilf]⟩ := by kernel_rfl
@[go_sem] theorem zTq : kOf prog 137 = some (.func) := by kernel_rfl
@[go_sem] theorem zSH : zcG prog 138 = some ⟨.func, 1, 8, [.nilf]⟩ := by kernel_rfl
@[go_sem] theorem zTp : kOf prog 138 = some (.func) := by kernel_rfl
@[go_sem] theorem zSG : zcG prog 140 = some ⟨.func, 1, 8, [.nilf]⟩ := by kernel_rfl
@[go_sem] theorem zTo : kOf prog 140 = some (.func) := by kernel_rfl
@[go_sem] theorem zSF : zcG prog 145 = some ⟨.struct [(40, 0), (24, 3)], 4, 56, zao zaf.zero⟩ := by kernel_rfl
@[go_sem] theorem zTn : kOf prog 145 = some (.struct [(40, 0), (24, 3)]) := by kernel_rfl
@[go_sem] theorem zSE : zcG prog 146 = some ⟨.struct [(40, 0), (24, 3)], 4, 56, zao zaf.zero⟩ := by kernel_rfl
@[go_sem] theorem zTm : kOf prog 146 = some (.struct [(40, 0), (24, 3)]) := by kernel_rfl
@[go_sem] theorem zSD : zcG prog 147 = some ⟨.func, 1, 8, [.nilf]⟩ := by kernel_rfl
@[go_sem] theorem zTl : kOf prog 147 = some (.func) := by kernel_rfl
@[go_sem] theorem zSC : zcG prog 152 = some ⟨.func, 1, 8, [.nilf]⟩ := by kernel_rfl
@[go_sem] theorem zTk : kOf prog 152 = some (.func) := by kernel_rfl
@[go_sem] theorem zSB : zcG prog 155 = some ⟨.int .u64, 1, 8, [.int .u64 0]⟩ := by kernel_rfl
@[go_sem] theorem zTj : kOf prog 155 = some (.int .u64) := by kernel_rfl
@[go_sem] theorem zSA : zcG prog 156 = some ⟨.slice 9, 1, 24, [.sl .nil []]⟩ := by kernel_rfl
@[go_sem] theorem zTi : kOf prog 156 = some (.slice 9) := by kernel_rfl
@[go_sem] theorem zSz : zcG prog 164 = some ⟨.func, 1, 8, [.nilf]⟩ := by kernel_rfl
@[go_sem] theorem zTh : kOf prog 164 = some (.func) := by kernel_rfl
@[go_sem] theorem zSy : zcG prog 175 = some ⟨.slice 3, 1, 24, [.sl .nil []]⟩ := by kernel_rfl
@[go_sem] theorem zTg : kOf prog 175 = some (.slice 3) := by kernel_rfl
@[go_sem] theorem zSx : zcG prog 182 = some ⟨.ptr, 1, 8, [.nilp]⟩ := by kernel_rfl
@[go_sem] theorem zTf : kOf prog 182 = some (.ptr) := by kernel_rfl
@[go_sem] theorem zSw : zcG prog 186 = some ⟨.iface, 1, 16, [.nili]⟩ := by kernel_rfl
@[go_sem] theorem zTe : kOf prog 186 = some (.iface) := by kernel_rfl
@[go_sem] theorem zSv : zcG prog 187 = some ⟨.iface, 1, 16, [.nili]⟩ := by kernel_rfl
@[go_sem] theorem zTd : kOf prog 187 = some (.iface) := by kernel_rfl
@[go_sem] theorem zSu : zcG prog 211 = some ⟨.int .u32, 1, 4, [.int .u32 0]⟩ := by kernel_rfl
@[go_sem] theorem zTc : kOf prog 211 = some (.int .u32) := by kernel_rfl
@[go_sem] theorem zSt : zcG prog 223 = some ⟨.map 3 9, 1, 8, [.nilm]⟩ := by kernel_rfl
@[go_sem] theorem zTb : kOf prog 223 = some (.map 3 9) := by kernel_rfl
@[go_sem] theorem zSs : zcG prog 227 = some ⟨.ptr, 1, 8, [.nilp]⟩ := by kernel_rfl
@[go_sem] theorem zTa : kOf prog 227 = some (.ptr) := by kernel_rfl
@[go_sem] theorem zSr : zcG prog 259 = some ⟨.func, 1, 8, [.nilf]⟩ := by kernel_rfl
@[go_sem] theorem zS9 : kOf prog 259 = some (.func) := by kernel_rfl
@[go_sem] theorem zSq : zcG prog 291 = some ⟨.ptr, 1, 8, [.nilp]⟩ := by kernel_rfl
@[go_sem] theorem zS8 : kOf prog 291 = some (.ptr) := by kernel_rfl
end Go.Proofs.Tryz
