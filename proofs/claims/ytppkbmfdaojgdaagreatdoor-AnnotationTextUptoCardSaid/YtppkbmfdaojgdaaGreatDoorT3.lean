/- AnnotationText: for every annotation and string that hold together at most 1048576 values and letters, the law returns true. Condition: that bound (the Upto form). -/
import Derived.Test.YtppkbmfdaojgdaaGreatDoorProg
import Derived.KernelRfl
import Derived.Test.YtppkbmfdaojgdaaGreatDoorT2
set_option linter.all false
namespace Go.Proofs.Tryz
open Go.Ev
@[go_sem] theorem ti1 : zd1 prog 1 = some ⟨.func, 1, 8, [.nilf]⟩ := by kernel_rfl
@[go_sem] theorem ko1 : kOf prog 1 = some (.func) := by kernel_rfl
@[go_sem] theorem ti2 : zd1 prog 2 = some ⟨.int .i64, 1, 8, [.int .i64 0]⟩ := by kernel_rfl
@[go_sem] theorem ko2 : kOf prog 2 = some (.int .i64) := by kernel_rfl
@[go_sem] theorem ti3 : zd1 prog 3 = some ⟨.int .i64, 1, 8, [.int .i64 0]⟩ := by kernel_rfl
@[go_sem] theorem ko3 : kOf prog 3 = some (.int .i64) := by kernel_rfl
@[go_sem] theorem ti4 : zd1 prog 4 = some ⟨.bool, 1, 1, [.bool false]⟩ := by kernel_rfl
@[go_sem] theorem ko4 : kOf prog 4 = some (.bool) := by kernel_rfl
@[go_sem] theorem ti5 : zd1 prog 5 = some ⟨.int .u8, 1, 1, [.int .u8 0]⟩ := by kernel_rfl
@[go_sem] theorem ko5 : kOf prog 5 = some (.int .u8) := by kernel_rfl
@[go_sem] theorem ti6 : zd1 prog 6 = some ⟨.int .u8, 1, 1, [.int .u8 0]⟩ := by kernel_rfl
@[go_sem] theorem ko6 : kOf prog 6 = some (.int .u8) := by kernel_rfl
@[go_sem] theorem ti9 : zd1 prog 9 = some ⟨.str, 1, 16, [.str []]⟩ := by kernel_rfl
@[go_sem] theorem ko9 : kOf prog 9 = some (.str) := by kernel_rfl
@[go_sem] theorem zXl : zd1 prog 20 = some ⟨.iface, 1, 16, [.nili]⟩ := by kernel_rfl
@[go_sem] theorem zX6 : kOf prog 20 = some (.iface) := by kernel_rfl
@[go_sem] theorem zXk : zd1 prog 21 = some ⟨.int .i32, 1, 4, [.int .i32 0]⟩ := by kernel_rfl
@[go_sem] theorem zX5 : kOf prog 21 = some (.int .i32) := by kernel_rfl
@[go_sem] theorem zXj : zd1 prog 22 = some ⟨.slice 46, 1, 24, [.sl .nil []]⟩ := by kernel_rfl
@[go_sem] theorem zX4 : kOf prog 22 = some (.slice 46) := by kernel_rfl
@[go_sem] theorem zXi : zd1 prog 23 = some ⟨.slice 46, 1, 24, [.sl .nil []]⟩ := by kernel_rfl
@[go_sem] theorem zX3 : kOf prog 23 = some (.slice 46) := by kernel_rfl
@[go_sem] theorem zXh : zd1 prog 27 = some ⟨.func, 1, 8, [.nilf]⟩ := by kernel_rfl
@[go_sem] theorem zX2 : kOf prog 27 = some (.func) := by kernel_rfl
@[go_sem] theorem zXg : zd1 prog 28 = some ⟨.int .i64, 1, 8, [.int .i64 0]⟩ := by kernel_rfl
@[go_sem] theorem zX1 : kOf prog 28 = some (.int .i64) := by kernel_rfl
@[go_sem] theorem zXf : zd1 prog 32 = some ⟨.func, 1, 8, [.nilf]⟩ := by kernel_rfl
@[go_sem] theorem zX0 : kOf prog 32 = some (.func) := by kernel_rfl
@[go_sem] theorem zXe : zd1 prog 34 = some ⟨.struct [(3, 0), (3, 1)], 2, 16, zcI zbw.zero⟩ := by kernel_rfl
@[go_sem] theorem zXZ : kOf prog 34 = some (.struct [(3, 0), (3, 1)]) := by kernel_rfl
@[go_sem] theorem zXd : zd1 prog 35 = some ⟨.struct [(3, 0), (3, 1)], 2, 16, zcI zbw.zero⟩ := by kernel_rfl
@[go_sem] theorem zXY : kOf prog 35 = some (.struct [(3, 0), (3, 1)]) := by kernel_rfl
@[go_sem] theorem zX9 : zE5 prog 35 = true := by kernel_rfl
@[go_sem] theorem zXc : zd1 prog 38 = some ⟨.struct [(35, 0), (23, 2)], 3, 40, zcB zbN.zero⟩ := by kernel_rfl
@[go_sem] theorem zXX : kOf prog 38 = some (.struct [(35, 0), (23, 2)]) := by kernel_rfl
@[go_sem] theorem zXb : zd1 prog 39 = some ⟨.struct [(35, 0), (23, 2)], 3, 40, zcB zbN.zero⟩ := by kernel_rfl
@[go_sem] theorem zXW : kOf prog 39 = some (.struct [(35, 0), (23, 2)]) := by kernel_rfl
@[go_sem] theorem zXa : zd1 prog 42 = some ⟨.slice 23, 1, 24, [.sl .nil []]⟩ := by kernel_rfl
@[go_sem] theorem zXV : kOf prog 42 = some (.slice 23) := by kernel_rfl
@[go_sem] theorem zW9 : zd1 prog 43 = some ⟨.func, 1, 8, [.nilf]⟩ := by kernel_rfl
@[go_sem] theorem zXU : kOf prog 43 = some (.func) := by kernel_rfl
@[go_sem] theorem zW8 : zd1 prog 44 = some ⟨.slice 54, 1, 24, [.sl .nil []]⟩ := by kernel_rfl
@[go_sem] theorem zXT : kOf prog 44 = some (.slice 54) := by kernel_rfl
@[go_sem] theorem zW7 : zd1 prog 45 = some ⟨.struct [(2, 0), (44, 1)], 2, 32, zap zal.zero⟩ := by kernel_rfl
@[go_sem] theorem zXS : kOf prog 45 = some (.struct [(2, 0), (44, 1)]) := by kernel_rfl
@[go_sem] theorem zW6 : zd1 prog 46 = some ⟨.struct [(2, 0), (44, 1)], 2, 32, zap zal.zero⟩ := by kernel_rfl
@[go_sem] theorem zXR : kOf prog 46 = some (.struct [(2, 0), (44, 1)]) := by kernel_rfl
@[go_sem] theorem zW5 : zd1 prog 47 = some ⟨.func, 1, 8, [.nilf]⟩ := by kernel_rfl
@[go_sem] theorem zXQ : kOf prog 47 = some (.func) := by kernel_rfl
@[go_sem] theorem zW4 : zd1 prog 48 = some ⟨.slice 77, 1, 24, [.sl .nil []]⟩ := by kernel_rfl
@[go_sem] theorem zXP : kOf prog 48 = some (.slice 77) := by kernel_rfl
@[go_sem] theorem zW3 : zd1 prog 49 = some ⟨.struct [(3, 0), (2, 1), (9, 2)], 3, 32, zhj Val.zero⟩ := by kernel_rfl
@[go_sem] theorem zXO : kOf prog 49 = some (.struct [(3, 0), (2, 1), (9, 2)]) := by kernel_rfl
@[go_sem] theorem zW2 : zd1 prog 50 = some ⟨.struct [(3, 0), (2, 1), (9, 2)], 3, 32, zhj Val.zero⟩ := by kernel_rfl
@[go_sem] theorem zXN : kOf prog 50 = some (.struct [(3, 0), (2, 1), (9, 2)]) := by kernel_rfl
@[go_sem] theorem zX8 : zE5 prog 50 = true := by kernel_rfl
@[go_sem] theorem zW1 : zd1 prog 51 = some ⟨.struct [(3, 0), (35, 1), (42, 3), (3, 4), (48, 5), (3, 6), (50, 7)], 10, 120, zbj zan.zero⟩ := by kernel_rfl
@[go_sem] theorem zXM : kOf prog 51 = some (.struct [(3, 0), (35, 1), (42, 3), (3, 4), (48, 5), (3, 6), (50, 7)]) := by kernel_rfl
@[go_sem] theorem zW0 : zd1 prog 52 = some ⟨.struct [(3, 0), (35, 1), (42, 3), (3, 4), (48, 5), (3, 6), (50, 7)], 10, 120, zbj zan.zero⟩ := by kernel_rfl
@[go_sem] theorem zXL : kOf prog 52 = some (.struct [(3, 0), (35, 1), (42, 3), (3, 4), (48, 5), (3, 6), (50, 7)]) := by kernel_rfl
@[go_sem] theorem zWZ : zd1 prog 53 = some ⟨.struct [(52, 0), (3, 10)], 11, 128, zar zai.zero⟩ := by kernel_rfl
@[go_sem] theorem zXK : kOf prog 53 = some (.struct [(52, 0), (3, 10)]) := by kernel_rfl
@[go_sem] theorem zWY : zd1 prog 54 = some ⟨.struct [(52, 0), (3, 10)], 11, 128, zar zai.zero⟩ := by kernel_rfl
@[go_sem] theorem zXJ : kOf prog 54 = some (.struct [(52, 0), (3, 10)]) := by kernel_rfl
@[go_sem] theorem zWX : zd1 prog 55 = some ⟨.func, 1, 8, [.nilf]⟩ := by kernel_rfl
@[go_sem] theorem zXI : kOf prog 55 = some (.func) := by kernel_rfl
@[go_sem] theorem zWW : zd1 prog 56 = some ⟨.func, 1, 8, [.nilf]⟩ := by kernel_rfl
@[go_sem] theorem zXH : kOf prog 56 = some (.func) := by kernel_rfl
@[go_sem] theorem zWV : zd1 prog 57 = some ⟨.ptr, 1, 8, [.nilp]⟩ := by kernel_rfl
@[go_sem] theorem zXG : kOf prog 57 = some (.ptr) := by kernel_rfl
@[go_sem] theorem zWU : zd1 prog 58 = some ⟨.struct [(9, 0)], 1, 16, zae zab.zero⟩ := by kernel_rfl
@[go_sem] theorem zXF : kOf prog 58 = some (.struct [(9, 0)]) := by kernel_rfl
@[go_sem] theorem zWT : zd1 prog 59 = some ⟨.struct [(9, 0)], 1, 16, zae zab.zero⟩ := by kernel_rfl
@[go_sem] theorem zXE : kOf prog 59 = some (.struct [(9, 0)]) := by kernel_rfl
@[go_sem] theorem zX7 : zE5 prog 59 = true := by kernel_rfl
@[go_sem] theorem zWS : zd1 prog 62 = some ⟨.func, 1, 8, [.nilf]⟩ := by kernel_rfl
@[go_sem] theorem zXD : kOf prog 62 = some (.func) := by kernel_rfl
@[go_sem] theorem zWR : zd1 prog 65 = some ⟨.func, 1, 8, [.nilf]⟩ := by kernel_rfl
@[go_sem] theorem zXC : kOf prog 65 = some (.func) := by kernel_rfl
@[go_sem] theorem zWQ : zd1 prog 69 = some ⟨.func, 1, 8, [.nilf]⟩ := by kernel_rfl
@[go_sem] theorem zXB : kOf prog 69 = some (.func) := by kernel_rfl
@[go_sem] theorem zWP : zd1 prog 70 = some ⟨.slice 39, 1, 24, [.sl .nil []]⟩ := by kernel_rfl
@[go_sem] theorem zXA : kOf prog 70 = some (.slice 39) := by kernel_rfl
@[go_sem] theorem zWO : zd1 prog 74 = some ⟨.func, 1, 8, [.nilf]⟩ := by kernel_rfl
@[go_sem] theorem zXz : kOf prog 74 = some (.func) := by kernel_rfl
@[go_sem] theorem zWN : zd1 prog 76 = some ⟨.struct [(50, 0), (23, 3)], 4, 56, zao zad.zero⟩ := by kernel_rfl
@[go_sem] theorem zXy : kOf prog 76 = some (.struct [(50, 0), (23, 3)]) := by kernel_rfl
@[go_sem] theorem zUD : zd1 prog 77 = some ⟨.struct [(50, 0), (23, 3)], 4, 56, zao zad.zero⟩ := by kernel_rfl
@[go_sem] theorem zXx : kOf prog 77 = some (.struct [(50, 0), (23, 3)]) := by kernel_rfl
@[go_sem] theorem zWM : zd1 prog 78 = some ⟨.slice 9, 1, 24, [.sl .nil []]⟩ := by kernel_rfl
@[go_sem] theorem zXw : kOf prog 78 = some (.slice 9) := by kernel_rfl
@[go_sem] theorem zWL : zd1 prog 82 = some ⟨.func, 1, 8, [.nilf]⟩ := by kernel_rfl
@[go_sem] theorem zXv : kOf prog 82 = some (.func) := by kernel_rfl
@[go_sem] theorem zWK : zd1 prog 83 = some ⟨.func, 1, 8, [.nilf]⟩ := by kernel_rfl
@[go_sem] theorem zXu : kOf prog 83 = some (.func) := by kernel_rfl
@[go_sem] theorem zWJ : zd1 prog 84 = some ⟨.func, 1, 8, [.nilf]⟩ := by kernel_rfl
@[go_sem] theorem zXt : kOf prog 84 = some (.func) := by kernel_rfl
@[go_sem] theorem zWI : zd1 prog 85 = some ⟨.func, 1, 8, [.nilf]⟩ := by kernel_rfl
@[go_sem] theorem zXs : kOf prog 85 = some (.func) := by kernel_rfl
@[go_sem] theorem zWH : zd1 prog 88 = some ⟨.func, 1, 8, [.nilf]⟩ := by kernel_rfl
@[go_sem] theorem zXr : kOf prog 88 = some (.func) := by kernel_rfl
@[go_sem] theorem zWG : zd1 prog 89 = some ⟨.func, 1, 8, [.nilf]⟩ := by kernel_rfl
@[go_sem] theorem zXq : kOf prog 89 = some (.func) := by kernel_rfl
@[go_sem] theorem zWF : zd1 prog 91 = some ⟨.func, 1, 8, [.nilf]⟩ := by kernel_rfl
@[go_sem] theorem zXp : kOf prog 91 = some (.func) := by kernel_rfl
@[go_sem] theorem zWE : zd1 prog 93 = some ⟨.func, 1, 8, [.nilf]⟩ := by kernel_rfl
@[go_sem] theorem zXo : kOf prog 93 = some (.func) := by kernel_rfl
@[go_sem] theorem zWD : zd1 prog 94 = some ⟨.func, 1, 8, [.nilf]⟩ := by kernel_rfl
@[go_sem] theorem zXn : kOf prog 94 = some (.func) := by kernel_rfl
@[go_sem] theorem zWC : zd1 prog 96 = some ⟨.func, 1, 8, [.nilf]⟩ := by kernel_rfl
@[go_sem] theorem zXm : kOf prog 96 = some (.func) := by kernel_rfl
@[go_sem] theorem zVD : zd1 prog 100 = some ⟨.func, 1, 8, [.nilf]⟩ := by kernel_rfl
@[go_sem] theorem zV7 : kOf prog 100 = some (.func) := by kernel_rfl
@[go_sem] theorem zVC : zd1 prog 101 = some ⟨.func, 1, 8, [.nilf]⟩ := by kernel_rfl
@[go_sem] theorem zV6 : kOf prog 101 = some (.func) := by kernel_rfl
@[go_sem] theorem zVB : zd1 prog 102 = some ⟨.func, 1, 8, [.nilf]⟩ := by kernel_rfl
@[go_sem] theorem zV5 : kOf prog 102 = some (.func) := by kernel_rfl
@[go_sem] theorem zVA : zd1 prog 103 = some ⟨.func, 1, 8, [.nilf]⟩ := by kernel_rfl
@[go_sem] theorem zV4 : kOf prog 103 = some (.func) := by kernel_rfl
@[go_sem] theorem zVz : zd1 prog 105 = some ⟨.func, 1, 8, [.nilf]⟩ := by kernel_rfl
@[go_sem] theorem zV3 : kOf prog 105 = some (.func) := by kernel_rfl
@[go_sem] theorem zVy : zd1 prog 108 = some ⟨.map 9 3, 1, 8, [.nilm]⟩ := by kernel_rfl
@[go_sem] theorem zV2 : kOf prog 108 = some (.map 9 3) := by kernel_rfl
@[go_sem] theorem zVx : zd1 prog 110 = some ⟨.func, 1, 8, [.nilf]⟩ := by kernel_rfl
@[go_sem] theorem zV1 : kOf prog 110 = some (.func) := by kernel_rfl
@[go_sem] theorem zVw : zd1 prog 111 = some ⟨.func, 1, 8, [.nilf]⟩ := by kernel_rfl
@[go_sem] theorem zV0 : kOf prog 111 = some (.func) := by kernel_rfl
@[go_sem] theorem zVv : zd1 prog 112 = some ⟨.func, 1, 8, [.nilf]⟩ := by kernel_rfl
@[go_sem] theorem zVZ : kOf prog 112 = some (.func) := by kernel_rfl
@[go_sem] theorem zVu : zd1 prog 114 = some ⟨.func, 1, 8, [.nilf]⟩ := by kernel_rfl
@[go_sem] theorem zVY : kOf prog 114 = some (.func) := by kernel_rfl
@[go_sem] theorem zVt : zd1 prog 115 = some ⟨.func, 1, 8, [.nilf]⟩ := by kernel_rfl
@[go_sem] theorem zVX : kOf prog 115 = some (.func) := by kernel_rfl
@[go_sem] theorem zVs : zd1 prog 116 = some ⟨.func, 1, 8, [.nilf]⟩ := by kernel_rfl
@[go_sem] theorem zVW : kOf prog 116 = some (.func) := by kernel_rfl
@[go_sem] theorem zVr : zd1 prog 117 = some ⟨.ptr, 1, 8, [.nilp]⟩ := by kernel_rfl
@[go_sem] theorem zVV : kOf prog 117 = some (.ptr) := by kernel_rfl
@[go_sem] theorem zVq : zd1 prog 118 = some ⟨.slice 5, 1, 24, [.sl .nil []]⟩ := by kernel_rfl
@[go_sem] theorem zVU : kOf prog 118 = some (.slice 5) := by kernel_rfl
@[go_sem] theorem zVp : zd1 prog 122 = some ⟨.iface, 1, 16, [.nili]⟩ := by kernel_rfl
@[go_sem] theorem zVT : kOf prog 122 = some (.iface) := by kernel_rfl
@[go_sem] theorem zVo : zd1 prog 123 = some ⟨.iface, 1, 16, [.nili]⟩ := by kernel_rfl
@[go_sem] theorem zVS : kOf prog 123 = some (.iface) := by kernel_rfl
@[go_sem] theorem zVn : zd1 prog 130 = some ⟨.int .u64, 1, 8, [.int .u64 0]⟩ := by kernel_rfl
@[go_sem] theorem zVR : kOf prog 130 = some (.int .u64) := by kernel_rfl
@[go_sem] theorem zVm : zd1 prog 135 = some ⟨.slice 3, 1, 24, [.sl .nil []]⟩ := by kernel_rfl
@[go_sem] theorem zVQ : kOf prog 135 = some (.slice 3) := by kernel_rfl
@[go_sem] theorem zVl : zd1 prog 167 = some ⟨.map 3 9, 1, 8, [.nilm]⟩ := by kernel_rfl
@[go_sem] theorem zVP : kOf prog 167 = some (.map 3 9) := by kernel_rfl
@[go_sem] theorem zVk : zd1 prog 171 = some ⟨.ptr, 1, 8, [.nilp]⟩ := by kernel_rfl
@[go_sem] theorem zVO : kOf prog 171 = some (.ptr) := by kernel_rfl
@[go_sem] theorem zVj : zd1 prog 177 = some ⟨.func, 1, 8, [.nilf]⟩ := by kernel_rfl
@[go_sem] theorem zVN : kOf prog 177 = some (.func) := by kernel_rfl
@[go_sem] theorem zVi : zd1 prog 179 = some ⟨.func, 1, 8, [.nilf]⟩ := by kernel_rfl
@[go_sem] theorem zVM : kOf prog 179 = some (.func) := by kernel_rfl
@[go_sem] theorem zVh : zd1 prog 197 = some ⟨.func, 1, 8, [.nilf]⟩ := by kernel_rfl
@[go_sem] theorem zVL : kOf prog 197 = some (.func) := by kernel_rfl
@[go_sem] theorem zVg : zd1 prog 214 = some ⟨.func, 1, 8, [.nilf]⟩ := by kernel_rfl
@[go_sem] theorem zVK : kOf prog 214 = some (.func) := by kernel_rfl
@[go_sem] theorem zVf : zd1 prog 252 = some ⟨.ptr, 1, 8, [.nilp]⟩ := by kernel_rfl
@[go_sem] theorem zVJ : kOf prog 252 = some (.ptr) := by kernel_rfl
end Go.Proofs.Tryz
