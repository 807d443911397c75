/- HashjoinBucket: for all rows, key columns, numbers of parts and levels that hold together at most 1048576 values and letters, the law returns true. Condition: that bound (the Upto form). -/
import Derived.Test.YtklniminnejicaaGreatDoorProg
import Derived.KernelRfl
import Derived.Test.YtklniminnejicaaGreatDoorT2
set_option linter.all false
namespace Go.Proofs.Tryz
open Go.Ev
@[go_sem] theorem ti1 : zbn prog 1 = some ⟨.func, 1, 8, [.nilf]⟩ := by kernel_rfl
@[go_sem] theorem ko1 : kOf prog 1 = some (.func) := by kernel_rfl
@[go_sem] theorem ti2 : zbn prog 2 = some ⟨.int .i64, 1, 8, [.int .i64 0]⟩ := by kernel_rfl
@[go_sem] theorem ko2 : kOf prog 2 = some (.int .i64) := by kernel_rfl
@[go_sem] theorem ti3 : zbn prog 3 = some ⟨.int .i64, 1, 8, [.int .i64 0]⟩ := by kernel_rfl
@[go_sem] theorem ko3 : kOf prog 3 = some (.int .i64) := by kernel_rfl
@[go_sem] theorem ti4 : zbn prog 4 = some ⟨.bool, 1, 1, [.bool false]⟩ := by kernel_rfl
@[go_sem] theorem ko4 : kOf prog 4 = some (.bool) := by kernel_rfl
@[go_sem] theorem ti5 : zbn prog 5 = some ⟨.int .u8, 1, 1, [.int .u8 0]⟩ := by kernel_rfl
@[go_sem] theorem ko5 : kOf prog 5 = some (.int .u8) := by kernel_rfl
@[go_sem] theorem ti6 : zbn prog 6 = some ⟨.int .u8, 1, 1, [.int .u8 0]⟩ := by kernel_rfl
@[go_sem] theorem ko6 : kOf prog 6 = some (.int .u8) := by kernel_rfl
@[go_sem] theorem ti9 : zbn prog 9 = some ⟨.str, 1, 16, [.str []]⟩ := by kernel_rfl
@[go_sem] theorem ko9 : kOf prog 9 = some (.str) := by kernel_rfl
@[go_sem] theorem zCa : zbn prog 10 = some ⟨.str, 1, 16, [.str []]⟩ := by kernel_rfl
@[go_sem] theorem zCQ : kOf prog 10 = some (.str) := by kernel_rfl
@[go_sem] theorem zB9 : zbn prog 20 = some ⟨.iface, 1, 16, [.nili]⟩ := by kernel_rfl
@[go_sem] theorem zCP : kOf prog 20 = some (.iface) := by kernel_rfl
@[go_sem] theorem zB8 : zbn prog 22 = some ⟨.slice 37, 1, 24, [.sl .nil []]⟩ := by kernel_rfl
@[go_sem] theorem zCO : kOf prog 22 = some (.slice 37) := by kernel_rfl
@[go_sem] theorem zB7 : zbn prog 23 = some ⟨.slice 76, 1, 24, [.sl .nil []]⟩ := by kernel_rfl
@[go_sem] theorem zCN : kOf prog 23 = some (.slice 76) := by kernel_rfl
@[go_sem] theorem zB6 : zbn prog 24 = some ⟨.slice 76, 1, 24, [.sl .nil []]⟩ := by kernel_rfl
@[go_sem] theorem zCM : kOf prog 24 = some (.slice 76) := by kernel_rfl
@[go_sem] theorem zB5 : zbn prog 25 = some ⟨.struct [(22, 0), (24, 1)], 2, 48, za4 zaK.zero⟩ := by kernel_rfl
@[go_sem] theorem zCL : kOf prog 25 = some (.struct [(22, 0), (24, 1)]) := by kernel_rfl
@[go_sem] theorem zB4 : zbn prog 26 = some ⟨.struct [(22, 0), (24, 1)], 2, 48, za4 zaK.zero⟩ := by kernel_rfl
@[go_sem] theorem zCK : kOf prog 26 = some (.struct [(22, 0), (24, 1)]) := by kernel_rfl
@[go_sem] theorem zB3 : zbn prog 27 = some ⟨.slice 3, 1, 24, [.sl .nil []]⟩ := by kernel_rfl
@[go_sem] theorem zCJ : kOf prog 27 = some (.slice 3) := by kernel_rfl
@[go_sem] theorem zB2 : zbn prog 30 = some ⟨.slice 26, 1, 24, [.sl .nil []]⟩ := by kernel_rfl
@[go_sem] theorem zCI : kOf prog 30 = some (.slice 26) := by kernel_rfl
@[go_sem] theorem zB1 : zbn prog 36 = some ⟨.struct [(3, 0), (2, 1), (9, 2)], 3, 32, zbv Val.zero⟩ := by kernel_rfl
@[go_sem] theorem zCH : kOf prog 36 = some (.struct [(3, 0), (2, 1), (9, 2)]) := by kernel_rfl
@[go_sem] theorem zB0 : zbn prog 37 = some ⟨.struct [(3, 0), (2, 1), (9, 2)], 3, 32, zbv Val.zero⟩ := by kernel_rfl
@[go_sem] theorem zCG : kOf prog 37 = some (.struct [(3, 0), (2, 1), (9, 2)]) := by kernel_rfl
@[go_sem] theorem zCS : zov prog 37 = true := by kernel_rfl
@[go_sem] theorem zBZ : zbn prog 38 = some ⟨.func, 1, 8, [.nilf]⟩ := by kernel_rfl
@[go_sem] theorem zCF : kOf prog 38 = some (.func) := by kernel_rfl
@[go_sem] theorem zBY : zbn prog 39 = some ⟨.func, 1, 8, [.nilf]⟩ := by kernel_rfl
@[go_sem] theorem zCE : kOf prog 39 = some (.func) := by kernel_rfl
@[go_sem] theorem zBX : zbn prog 40 = some ⟨.struct [(3, 0), (3, 1)], 2, 16, zbi zaR.zero⟩ := by kernel_rfl
@[go_sem] theorem zCD : kOf prog 40 = some (.struct [(3, 0), (3, 1)]) := by kernel_rfl
@[go_sem] theorem zBW : zbn prog 41 = some ⟨.struct [(3, 0), (3, 1)], 2, 16, zbi zaR.zero⟩ := by kernel_rfl
@[go_sem] theorem zCC : kOf prog 41 = some (.struct [(3, 0), (3, 1)]) := by kernel_rfl
@[go_sem] theorem zCR : zov prog 41 = true := by kernel_rfl
@[go_sem] theorem zBV : zbn prog 42 = some ⟨.func, 1, 8, [.nilf]⟩ := by kernel_rfl
@[go_sem] theorem zCB : kOf prog 42 = some (.func) := by kernel_rfl
@[go_sem] theorem zBU : zbn prog 43 = some ⟨.ptr, 1, 8, [.nilp]⟩ := by kernel_rfl
@[go_sem] theorem zCA : kOf prog 43 = some (.ptr) := by kernel_rfl
@[go_sem] theorem zBT : zbn prog 45 = some ⟨.int .i64, 1, 8, [.int .i64 0]⟩ := by kernel_rfl
@[go_sem] theorem zCz : kOf prog 45 = some (.int .i64) := by kernel_rfl
@[go_sem] theorem zBS : zbn prog 48 = some ⟨.slice 50, 1, 24, [.sl .nil []]⟩ := by kernel_rfl
@[go_sem] theorem zCy : kOf prog 48 = some (.slice 50) := by kernel_rfl
@[go_sem] theorem zBR : zbn prog 49 = some ⟨.struct [(3, 0), (3, 1), (37, 2), (3, 5), (48, 6)], 7, 80, zaD zae.zero⟩ := by kernel_rfl
@[go_sem] theorem zCx : kOf prog 49 = some (.struct [(3, 0), (3, 1), (37, 2), (3, 5), (48, 6)]) := by kernel_rfl
@[go_sem] theorem zBQ : zbn prog 50 = some ⟨.struct [(3, 0), (3, 1), (37, 2), (3, 5), (48, 6)], 7, 80, zaD zae.zero⟩ := by kernel_rfl
@[go_sem] theorem zCw : kOf prog 50 = some (.struct [(3, 0), (3, 1), (37, 2), (3, 5), (48, 6)]) := by kernel_rfl
@[go_sem] theorem zBP : zbn prog 54 = some ⟨.slice 27, 1, 24, [.sl .nil []]⟩ := by kernel_rfl
@[go_sem] theorem zCv : kOf prog 54 = some (.slice 27) := by kernel_rfl
@[go_sem] theorem zBO : zbn prog 56 = some ⟨.int .u64, 1, 8, [.int .u64 0]⟩ := by kernel_rfl
@[go_sem] theorem zCu : kOf prog 56 = some (.int .u64) := by kernel_rfl
@[go_sem] theorem zBN : zbn prog 58 = some ⟨.func, 1, 8, [.nilf]⟩ := by kernel_rfl
@[go_sem] theorem zCt : kOf prog 58 = some (.func) := by kernel_rfl
@[go_sem] theorem zBM : zbn prog 61 = some ⟨.slice 24, 1, 24, [.sl .nil []]⟩ := by kernel_rfl
@[go_sem] theorem zCs : kOf prog 61 = some (.slice 24) := by kernel_rfl
@[go_sem] theorem zBL : zbn prog 62 = some ⟨.slice 143, 1, 24, [.sl .nil []]⟩ := by kernel_rfl
@[go_sem] theorem zCr : kOf prog 62 = some (.slice 143) := by kernel_rfl
@[go_sem] theorem zBK : zbn prog 63 = some ⟨.struct [(3, 0), (41, 1), (61, 3), (3, 4), (62, 5), (3, 6), (37, 7)], 10, 120, zaS zah.zero⟩ := by kernel_rfl
@[go_sem] theorem zCq : kOf prog 63 = some (.struct [(3, 0), (41, 1), (61, 3), (3, 4), (62, 5), (3, 6), (37, 7)]) := by kernel_rfl
@[go_sem] theorem zBJ : zbn prog 64 = some ⟨.struct [(3, 0), (41, 1), (61, 3), (3, 4), (62, 5), (3, 6), (37, 7)], 10, 120, zaS zah.zero⟩ := by kernel_rfl
@[go_sem] theorem zCp : kOf prog 64 = some (.struct [(3, 0), (41, 1), (61, 3), (3, 4), (62, 5), (3, 6), (37, 7)]) := by kernel_rfl
@[go_sem] theorem zBI : zbn prog 65 = some ⟨.ptr, 1, 8, [.nilp]⟩ := by kernel_rfl
@[go_sem] theorem zCo : kOf prog 65 = some (.ptr) := by kernel_rfl
@[go_sem] theorem zBH : zbn prog 74 = some ⟨.slice 79, 1, 24, [.sl .nil []]⟩ := by kernel_rfl
@[go_sem] theorem zCn : kOf prog 74 = some (.slice 79) := by kernel_rfl
@[go_sem] theorem zBG : zbn prog 75 = some ⟨.struct [(2, 0), (74, 1)], 2, 32, zaL zaE.zero⟩ := by kernel_rfl
@[go_sem] theorem zCm : kOf prog 75 = some (.struct [(2, 0), (74, 1)]) := by kernel_rfl
@[go_sem] theorem zBF : zbn prog 76 = some ⟨.struct [(2, 0), (74, 1)], 2, 32, zaL zaE.zero⟩ := by kernel_rfl
@[go_sem] theorem zCl : kOf prog 76 = some (.struct [(2, 0), (74, 1)]) := by kernel_rfl
@[go_sem] theorem zBE : zbn prog 78 = some ⟨.struct [(64, 0), (3, 10)], 11, 128, zar zaf.zero⟩ := by kernel_rfl
@[go_sem] theorem zCk : kOf prog 78 = some (.struct [(64, 0), (3, 10)]) := by kernel_rfl
@[go_sem] theorem zBD : zbn prog 79 = some ⟨.struct [(64, 0), (3, 10)], 11, 128, zar zaf.zero⟩ := by kernel_rfl
@[go_sem] theorem zCj : kOf prog 79 = some (.struct [(64, 0), (3, 10)]) := by kernel_rfl
@[go_sem] theorem zBC : zbn prog 88 = some ⟨.func, 1, 8, [.nilf]⟩ := by kernel_rfl
@[go_sem] theorem zCi : kOf prog 88 = some (.func) := by kernel_rfl
@[go_sem] theorem zBB : zbn prog 89 = some ⟨.int .u64, 1, 8, [.int .u64 0]⟩ := by kernel_rfl
@[go_sem] theorem zCh : kOf prog 89 = some (.int .u64) := by kernel_rfl
@[go_sem] theorem zBA : zbn prog 90 = some ⟨.func, 1, 8, [.nilf]⟩ := by kernel_rfl
@[go_sem] theorem zCg : kOf prog 90 = some (.func) := by kernel_rfl
@[go_sem] theorem zBz : zbn prog 93 = some ⟨.slice 5, 1, 24, [.sl .nil []]⟩ := by kernel_rfl
@[go_sem] theorem zCf : kOf prog 93 = some (.slice 5) := by kernel_rfl
@[go_sem] theorem zBy : zbn prog 94 = some ⟨.slice 172, 1, 24, [.sl .nil []]⟩ := by kernel_rfl
@[go_sem] theorem zCe : kOf prog 94 = some (.slice 172) := by kernel_rfl
@[go_sem] theorem zBx : zbn prog 95 = some ⟨.struct [(93, 0), (94, 1), (3, 2), (4, 3)], 4, 64, zaz zad.zero⟩ := by kernel_rfl
@[go_sem] theorem zCd : kOf prog 95 = some (.struct [(93, 0), (94, 1), (3, 2), (4, 3)]) := by kernel_rfl
@[go_sem] theorem zBw : zbn prog 96 = some ⟨.struct [(93, 0), (94, 1), (3, 2), (4, 3)], 4, 64, zaz zad.zero⟩ := by kernel_rfl
@[go_sem] theorem zCc : kOf prog 96 = some (.struct [(93, 0), (94, 1), (3, 2), (4, 3)]) := by kernel_rfl
@[go_sem] theorem zBv : zbn prog 97 = some ⟨.map 3 131, 1, 8, [.nilm]⟩ := by kernel_rfl
@[go_sem] theorem zCb : kOf prog 97 = some (.map 3 131) := by kernel_rfl
@[go_sem] theorem zAv : zbn prog 101 = some ⟨.func, 1, 8, [.nilf]⟩ := by kernel_rfl
@[go_sem] theorem zAY : kOf prog 101 = some (.func) := by kernel_rfl
@[go_sem] theorem zAu : zbn prog 102 = some ⟨.func, 1, 8, [.nilf]⟩ := by kernel_rfl
@[go_sem] theorem zAX : kOf prog 102 = some (.func) := by kernel_rfl
@[go_sem] theorem zAt : zbn prog 103 = some ⟨.func, 1, 8, [.nilf]⟩ := by kernel_rfl
@[go_sem] theorem zAW : kOf prog 103 = some (.func) := by kernel_rfl
@[go_sem] theorem zAs : zbn prog 104 = some ⟨.func, 1, 8, [.nilf]⟩ := by kernel_rfl
@[go_sem] theorem zAV : kOf prog 104 = some (.func) := by kernel_rfl
@[go_sem] theorem zAr : zbn prog 108 = some ⟨.func, 1, 8, [.nilf]⟩ := by kernel_rfl
@[go_sem] theorem zAU : kOf prog 108 = some (.func) := by kernel_rfl
@[go_sem] theorem zAq : zbn prog 110 = some ⟨.func, 1, 8, [.nilf]⟩ := by kernel_rfl
@[go_sem] theorem zAT : kOf prog 110 = some (.func) := by kernel_rfl
@[go_sem] theorem zAp : zbn prog 111 = some ⟨.func, 1, 8, [.nilf]⟩ := by kernel_rfl
@[go_sem] theorem zAS : kOf prog 111 = some (.func) := by kernel_rfl
@[go_sem] theorem zAo : zbn prog 112 = some ⟨.func, 1, 8, [.nilf]⟩ := by kernel_rfl
@[go_sem] theorem zAR : kOf prog 112 = some (.func) := by kernel_rfl
@[go_sem] theorem zAn : zbn prog 114 = some ⟨.func, 1, 8, [.nilf]⟩ := by kernel_rfl
@[go_sem] theorem zAQ : kOf prog 114 = some (.func) := by kernel_rfl
@[go_sem] theorem zAm : zbn prog 115 = some ⟨.func, 1, 8, [.nilf]⟩ := by kernel_rfl
@[go_sem] theorem zAP : kOf prog 115 = some (.func) := by kernel_rfl
@[go_sem] theorem zAl : zbn prog 116 = some ⟨.func, 1, 8, [.nilf]⟩ := by kernel_rfl
@[go_sem] theorem zAO : kOf prog 116 = some (.func) := by kernel_rfl
@[go_sem] theorem zAk : zbn prog 117 = some ⟨.func, 1, 8, [.nilf]⟩ := by kernel_rfl
@[go_sem] theorem zAN : kOf prog 117 = some (.func) := by kernel_rfl
@[go_sem] theorem zAj : zbn prog 118 = some ⟨.func, 1, 8, [.nilf]⟩ := by kernel_rfl
@[go_sem] theorem zAM : kOf prog 118 = some (.func) := by kernel_rfl
@[go_sem] theorem zAi : zbn prog 119 = some ⟨.func, 1, 8, [.nilf]⟩ := by kernel_rfl
@[go_sem] theorem zAL : kOf prog 119 = some (.func) := by kernel_rfl
@[go_sem] theorem zAh : zbn prog 130 = some ⟨.struct [(3, 0), (3, 1), (3, 2)], 3, 24, zaC zam.zero⟩ := by kernel_rfl
@[go_sem] theorem zAK : kOf prog 130 = some (.struct [(3, 0), (3, 1), (3, 2)]) := by kernel_rfl
@[go_sem] theorem zAg : zbn prog 131 = some ⟨.struct [(3, 0), (3, 1), (3, 2)], 3, 24, zaC zam.zero⟩ := by kernel_rfl
@[go_sem] theorem zAJ : kOf prog 131 = some (.struct [(3, 0), (3, 1), (3, 2)]) := by kernel_rfl
@[go_sem] theorem zA3 : zov prog 131 = true := by kernel_rfl
@[go_sem] theorem zAf : zbn prog 142 = some ⟨.struct [(37, 0), (24, 3)], 4, 56, zao zac.zero⟩ := by kernel_rfl
@[go_sem] theorem zAI : kOf prog 142 = some (.struct [(37, 0), (24, 3)]) := by kernel_rfl
@[go_sem] theorem zAe : zbn prog 143 = some ⟨.struct [(37, 0), (24, 3)], 4, 56, zao zac.zero⟩ := by kernel_rfl
@[go_sem] theorem zAH : kOf prog 143 = some (.struct [(37, 0), (24, 3)]) := by kernel_rfl
@[go_sem] theorem zAd : zbn prog 171 = some ⟨.struct [(3, 0), (93, 1)], 2, 32, zax zap.zero⟩ := by kernel_rfl
@[go_sem] theorem zAG : kOf prog 171 = some (.struct [(3, 0), (93, 1)]) := by kernel_rfl
@[go_sem] theorem zAc : zbn prog 172 = some ⟨.struct [(3, 0), (93, 1)], 2, 32, zax zap.zero⟩ := by kernel_rfl
@[go_sem] theorem zAF : kOf prog 172 = some (.struct [(3, 0), (93, 1)]) := by kernel_rfl
@[go_sem] theorem zAb : zbn prog 219 = some ⟨.slice 9, 1, 24, [.sl .nil []]⟩ := by kernel_rfl
@[go_sem] theorem zAE : kOf prog 219 = some (.slice 9) := by kernel_rfl
@[go_sem] theorem zAa : zbn prog 249 = some ⟨.ptr, 1, 8, [.nilp]⟩ := by kernel_rfl
@[go_sem] theorem zAD : kOf prog 249 = some (.ptr) := by kernel_rfl
@[go_sem] theorem zz9 : zbn prog 253 = some ⟨.iface, 1, 16, [.nili]⟩ := by kernel_rfl
@[go_sem] theorem zAC : kOf prog 253 = some (.iface) := by kernel_rfl
@[go_sem] theorem zz8 : zbn prog 254 = some ⟨.iface, 1, 16, [.nili]⟩ := by kernel_rfl
@[go_sem] theorem zAB : kOf prog 254 = some (.iface) := by kernel_rfl
@[go_sem] theorem zz7 : zbn prog 359 = some ⟨.ptr, 1, 8, [.nilp]⟩ := by kernel_rfl
@[go_sem] theorem zAA : kOf prog 359 = some (.ptr) := by kernel_rfl
end Go.Proofs.Tryz
