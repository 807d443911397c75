/- Part of a proof. -/
import Derived.Test.YtaadpbhondmahaaGreatDoorProg
import Derived.KernelRfl
import Derived.Test.YtaadpbhondmahaaGreatDoorT2
set_option linter.all false
namespace Go.Proofs.Tryz
open Go.Ev
@[go_sem] theorem ti2 : zkZ prog 2 = some ⟨.int .i64, 1, 8, [.int .i64 0]⟩ := by kernel_rfl
@[go_sem] theorem ko2 : kOf prog 2 = some (.int .i64) := by kernel_rfl
@[go_sem] theorem ti3 : zkZ prog 3 = some ⟨.int .i64, 1, 8, [.int .i64 0]⟩ := by kernel_rfl
@[go_sem] theorem ko3 : kOf prog 3 = some (.int .i64) := by kernel_rfl
@[go_sem] theorem ko4 : kOf prog 4 = some (.bool) := by kernel_rfl
@[go_sem] theorem ti5 : zkZ prog 5 = some ⟨.int .u8, 1, 1, [.int .u8 0]⟩ := by kernel_rfl
@[go_sem] theorem ko5 : kOf prog 5 = some (.int .u8) := by kernel_rfl
@[go_sem] theorem ti9 : zkZ prog 9 = some ⟨.str, 1, 16, [.str []]⟩ := by kernel_rfl
@[go_sem] theorem ko9 : kOf prog 9 = some (.str) := by kernel_rfl
@[go_sem] theorem z2h : zkZ prog 22 = some ⟨.slice 40, 1, 24, [.sl .nil []]⟩ := by kernel_rfl
@[go_sem] theorem z2x : kOf prog 22 = some (.slice 40) := by kernel_rfl
@[go_sem] theorem z2g : zkZ prog 24 = some ⟨.slice 74, 1, 24, [.sl .nil []]⟩ := by kernel_rfl
@[go_sem] theorem z2w : kOf prog 24 = some (.slice 74) := by kernel_rfl
@[go_sem] theorem z2f : zkZ prog 26 = some ⟨.struct [(22, 0), (24, 1)], 2, 48, zhd zfV.zero⟩ := by kernel_rfl
@[go_sem] theorem z2v : kOf prog 26 = some (.struct [(22, 0), (24, 1)]) := by kernel_rfl
@[go_sem] theorem z2u : kOf prog 27 = some (.slice 5) := by kernel_rfl
@[go_sem] theorem z2e : zkZ prog 30 = some ⟨.slice 26, 1, 24, [.sl .nil []]⟩ := by kernel_rfl
@[go_sem] theorem z2t : kOf prog 30 = some (.slice 26) := by kernel_rfl
@[go_sem] theorem z2d : zkZ prog 40 = some ⟨.struct [(3, 0), (2, 1), (9, 2)], 3, 32, zd0 Val.zero⟩ := by kernel_rfl
@[go_sem] theorem z2s : kOf prog 40 = some (.struct [(3, 0), (2, 1), (9, 2)]) := by kernel_rfl
@[go_sem] theorem z2z : zKw prog 40 = true := by kernel_rfl
@[go_sem] theorem z2c : zkZ prog 53 = some ⟨.slice 88, 1, 24, [.sl .nil []]⟩ := by kernel_rfl
@[go_sem] theorem z2r : kOf prog 53 = some (.slice 88) := by kernel_rfl
@[go_sem] theorem z2b : zkZ prog 55 = some ⟨.struct [(53, 0), (30, 1)], 2, 48, zdt za7.zero⟩ := by kernel_rfl
@[go_sem] theorem z2q : kOf prog 55 = some (.struct [(53, 0), (30, 1)]) := by kernel_rfl
@[go_sem] theorem z2a : zkZ prog 72 = some ⟨.slice 100, 1, 24, [.sl .nil []]⟩ := by kernel_rfl
@[go_sem] theorem z2p : kOf prog 72 = some (.slice 100) := by kernel_rfl
@[go_sem] theorem z19 : zkZ prog 74 = some ⟨.struct [(2, 0), (72, 1)], 2, 32, zaq zam.zero⟩ := by kernel_rfl
@[go_sem] theorem z2o : kOf prog 74 = some (.struct [(2, 0), (72, 1)]) := by kernel_rfl
@[go_sem] theorem z2n : kOf prog 86 = some (.slice 55) := by kernel_rfl
@[go_sem] theorem z18 : zkZ prog 88 = some ⟨.struct [(9, 0), (3, 1)], 2, 24, zsA zwQ.zero⟩ := by kernel_rfl
@[go_sem] theorem z2m : kOf prog 88 = some (.struct [(9, 0), (3, 1)]) := by kernel_rfl
@[go_sem] theorem z17 : zkZ prog 94 = some ⟨.struct [(3, 0), (3, 1)], 2, 16, zev zbZ.zero⟩ := by kernel_rfl
@[go_sem] theorem z2l : kOf prog 94 = some (.struct [(3, 0), (3, 1)]) := by kernel_rfl
@[go_sem] theorem z2y : zKw prog 94 = true := by kernel_rfl
@[go_sem] theorem z16 : zkZ prog 95 = some ⟨.slice 24, 1, 24, [.sl .nil []]⟩ := by kernel_rfl
@[go_sem] theorem z2k : kOf prog 95 = some (.slice 24) := by kernel_rfl
@[go_sem] theorem z15 : zkZ prog 96 = some ⟨.slice 146, 1, 24, [.sl .nil []]⟩ := by kernel_rfl
@[go_sem] theorem z2j : kOf prog 96 = some (.slice 146) := by kernel_rfl
@[go_sem] theorem z14 : zkZ prog 98 = some ⟨.struct [(3, 0), (94, 1), (95, 3), (3, 4), (96, 5), (3, 6), (40, 7)], 10, 120, zbQ zas.zero⟩ := by kernel_rfl
@[go_sem] theorem z2i : kOf prog 98 = some (.struct [(3, 0), (94, 1), (95, 3), (3, 4), (96, 5), (3, 6), (40, 7)]) := by kernel_rfl
@[go_sem] theorem z1u : zkZ prog 100 = some ⟨.struct [(98, 0), (3, 10)], 11, 128, zaz zaj.zero⟩ := by kernel_rfl
@[go_sem] theorem z1H : kOf prog 100 = some (.struct [(98, 0), (3, 10)]) := by kernel_rfl
@[go_sem] theorem z1G : kOf prog 104 = some (.int .u64) := by kernel_rfl
@[go_sem] theorem z1t : zkZ prog 111 = some ⟨.ptr, 1, 8, [.nilp]⟩ := by kernel_rfl
@[go_sem] theorem z1s : zkZ prog 113 = some ⟨.struct [(9, 0)], 1, 16, zag zab.zero⟩ := by kernel_rfl
@[go_sem] theorem z1F : kOf prog 113 = some (.struct [(9, 0)]) := by kernel_rfl
@[go_sem] theorem zS3 : zkZ prog 146 = some ⟨.struct [(40, 0), (24, 3)], 4, 56, zao zae.zero⟩ := by kernel_rfl
@[go_sem] theorem z1E : kOf prog 146 = some (.struct [(40, 0), (24, 3)]) := by kernel_rfl
@[go_sem] theorem z1D : kOf prog 156 = some (.slice 9) := by kernel_rfl
@[go_sem] theorem z1C : kOf prog 175 = some (.slice 3) := by kernel_rfl
@[go_sem] theorem z1B : kOf prog 187 = some (.iface) := by kernel_rfl
@[go_sem] theorem z1A : kOf prog 223 = some (.map 3 9) := by kernel_rfl
@[go_sem] theorem z1r : zkZ prog 259 = some ⟨.func, 1, 8, [.nilf]⟩ := by kernel_rfl
end Go.Proofs.Tryz
