/- Part of a proof. -/
import Derived.Test.YtaadpbhondmahaaGreatDoorT17
import Derived.Test.YtaadpbhondmahaaGreatDoorT18
set_option linter.all false
set_option maxRecDepth 1000000
namespace Go.Proofs.Tryz
open Go Go.Ev Go.RowKit
def zGx (f : Nat) : Option (List D → Option D) := if Nat.beq f 5 then none else zwV f
def zRM (f : Nat) : Option (List D → List Blk → Option Res) := if Nat.beq f 111 then some (zDF 112) else none
noncomputable def zRJ : Cfg := { P := prog, prim := zGx, byRef := fun f => Nat.beq f 68 || zDu f, fine := fun f => decide (f < 286), alt := zRM, byRes := zDt }
theorem zDz : dfn zRJ 80 5 [] [] = some ⟨.bool true, [], []⟩ := by kernel_rfl
theorem zGS : (List.range 286).all (zGT prog) = true := by kernel_rfl
theorem zFU : zu7 prog dwB (fun f => decide (f < 286)) := zCV (l := List.range 286) (fun f h => by simpa using h) zGS
theorem zFI : znn prog := zCl (by kernel_rfl) (by kernel_rfl)
theorem mixed : prog.follows .mixedOrders = true := by kernel_rfl
theorem zDG (G : (Nat → Prop) → World → Prop) : zrR prog G zRM := by
 intro f F h args sub r hF
 unfold zRM at h
 split at h
 · rename_i hf
   obtain rfl := Nat.eq_of_beq_eq_true hf
   obtain rfl := Option.some.inj h
   refine ⟨zd7 func111 (by kernel_rfl), fun S w ι vals _ hs hr => zzc (fun w a r clock ha hr hm hb => ?_) hF hs hr⟩
   exact (ztK Fence.wide 2 trivial trivial rfl (Nat.le_refl _) a r clock w ha hr hm hb).calls (fun _ => by simp [Fence.room, Fence.wide])
 · cases h
end Go.Proofs.Tryz
set_option maxRecDepth 1000000
namespace Go.Proofs.Tryz
open Go Go.Ev Go.RowKit
theorem zuL {W : World} (hW : Held W) {f : Nat} {p : List D → Option D} (h : zwV f = some p) : zno W f p ∨ (f = 5 ∧ p = ztc) := by
 unfold zwV at h
 cases hf : zGw.find? (fun x => Nat.beq x.1 f) with
 | none => rw [hf] at h; cases h
 | some x =>
   rw [hf] at h
   obtain rfl := Option.some.inj h
   have h1 := List.mem_of_find?_eq_some hf
   have h2 : Nat.beq x.1 f = true := List.find?_some (p := fun (x : Nat × (List D → Option D)) => Nat.beq x.1 f) hf
   have h2 := Nat.eq_of_beq_eq_true h2
   subst h2
   simp only [zGw, List.mem_cons, List.not_mem_nil, or_false] at h1
   rcases h1 with rfl | rfl | rfl | rfl | rfl | rfl | rfl | rfl | rfl | rfl | rfl
   · exact .inl (zvB hW)
   · exact .inl (zs9 hW)
   · exact .inl (zEG hW)
   · exact .inl (zCm W)
   · exact .inl (zvA hW)
   · exact .inl (zCq hW)
   · exact .inl (zwT W)
   · exact .inl (zCp hW)
   · exact .inl (zCo W)
   · exact .inl (zt5 hW)
   · exact .inr ⟨rfl, rfl⟩
theorem zAA {W : World} (hW : Held W) : zj1 prog (G0 W) zRJ.prim := by
 intro f p h
 have h : zGx f = some p := h
 unfold zGx at h
 split at h
 · cases h
 · rename_i hn
   rcases zuL hW h with h1 | ⟨rfl, _⟩
   · exact h1
   · exact absurd rfl hn
theorem zAz {W : World} (hW : Held W) : zno W 5 ztc := by
 intro args d h
 unfold ztc at h
 split at h
 · cases h
   refine ⟨zd7 func5 (by kernel_rfl), rfl, fun S w ι m vals hG hs hr => ?_⟩
   have hv : vals = #[] := by have := hr.1; exact Array.eq_empty_of_size_eq_zero (by simpa using this)
   subst hv
   refine (zC3 (C := zRJ) zFI mixed rfl (zCE W) (zAA hW) (zDG _) zFU zDz (w := w) (vals := #[]) ⟨hG.1, fun r hr => Nat.lt_of_lt_of_le hr hG.1.size⟩ ι zfl.nil).mono fun e w' he => ?_
   obtain ⟨rfl, hk, hs, hb⟩ := he
   exact ⟨_, rfl, .ext _ _ (.bool _), hk, hs, hb⟩
 · cases h
theorem zCn {W : World} (hW : Held W) : zj1 prog (G0 W) cfg.prim := by
 intro f p h
 rcases zuL hW (show zwV f = some p from h) with h1 | ⟨rfl, rfl⟩
 · exact h1
 · exact zAz hW
end Go.Proofs.Tryz
