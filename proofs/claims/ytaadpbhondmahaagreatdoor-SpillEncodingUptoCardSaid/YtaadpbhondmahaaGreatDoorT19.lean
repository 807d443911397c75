/- Part of a proof. -/
import Derived.Test.YtaadpbhondmahaaGreatDoorT17
import Derived.Test.YtaadpbhondmahaaGreatDoorT18
set_option linter.all false
set_option maxRecDepth 1000000
namespace Go.Proofs.Tryz
open Go Go.Ev Go.RowKit
def zQv (f : Nat) : Option (List D -> Option D) := if Nat.beq f 5 then none else zFp f
def z0V (f : Nat) : Option (List D -> List Blk -> Option Res) := if Nat.beq f 111 then some (zNK 112) else none
noncomputable def z0T : Cfg := { P := prog, prim := zQv, byRef := fun f => Nat.beq f 68 || zNy f, fine := fun f => decide (f < 286), alt := z0V, byRes := zNx }
theorem zND : dfn z0T 80 5 [] [] = some ⟨.bool true, [], []⟩ := by kernel_rfl
theorem zQR : (List.range 286).all (zQS prog) = true := by kernel_rfl
theorem zPT : zCV prog dwB (fun f => decide (f < 286)) := zMO (l := List.range 286) (fun f h => by simpa using h) zQR
theorem zPJ : zry prog := zMd (by kernel_rfl) (by kernel_rfl)
theorem mixed : prog.follows .mixedOrders = true := by kernel_rfl
theorem zNL (G : (Nat -> Prop) -> World -> Prop) : zx9 prog G z0V := by
 intro f F h args sub r hF
 unfold z0V at h
 split at h
 · rename_i hf
   obtain rfl := Nat.eq_of_beq_eq_true hf
   cases h
   refine ⟨ze5 func111 (by kernel_rfl), fun S w ι vals _ hs hr => zIj (fun w a r clock ha hr hm hb => ?_) hF hs hr⟩
   exact (zAK Fence.wide 2 trivial trivial rfl (yP _) a r clock w ha hr hm hb).calls (fun _ => by simp [Fence.room, Fence.wide])
 · cases h
theorem zCr {W : World} (hW : Held W) {f : Nat} {p : List D -> Option D} (h : zFp f = some p) : zrz W f p ∨ (f = 5 /\ p = zz6) := by
 unfold zFp at h
 cases hf : zQu.find? (fun x => Nat.beq x.1 f) with
 | none => rw [hf] at h; cases h
 | some x =>
   rw [hf] at h
   cases h
   have h1 := List.mem_of_find?_eq_some hf
   have h2 : Nat.beq x.1 f = true := List.find?_some (p := fun (x : Nat × (List D -> Option D)) => Nat.beq x.1 f) hf
   have h2 := Nat.eq_of_beq_eq_true h2
   subst h2
   simp only [zQu, yj, List.not_mem_nil, or_false] at h1
   rcases h1 with rfl | rfl | rfl | rfl | rfl | rfl | rfl | rfl | rfl | rfl | rfl
   · exact .inl (zDv hW)
   · exact .inl (zz1 hW)
   · exact .inl (zOM hW)
   · exact .inl (zMe W)
   · exact .inl (zDu hW)
   · exact .inl (zMi hW)
   · exact .inl (zFn W)
   · exact .inl (zMh hW)
   · exact .inl (zMg W)
   · exact .inl (zBv hW)
   · exact .inr ⟨rfl, rfl⟩
theorem zJY {W : World} (hW : Held W) : zmI prog (G0 W) z0T.prim := by
 intro f p h
 have h : zQv f = some p := h
 unfold zQv at h
 split at h
 · cases h
 · rename_i hn
   rcases zCr hW h with h1 | ⟨rfl, _⟩
   · exact h1
   · exact absurd rfl hn
theorem zJX {W : World} (hW : Held W) : zrz W 5 zz6 := by
 intro args d h
 unfold zz6 at h
 split at h
 · cases h
   refine ⟨ze5 func5 (by kernel_rfl), rfl, fun S w ι m vals hG hs hr => ?_⟩
   have hv : vals = #[] := by have := hr.1; exact Array.eq_empty_of_size_eq_zero (by simpa using this)
   subst hv
   refine (zMY (C := z0T) zPJ mixed rfl (zMC W) (zJY hW) (zNL _) zPT zND (w := w) (vals := #[]) ⟨hG.1, fun r hr => Nat.lt_of_lt_of_le hr hG.1.size⟩ ι zgH.nil).mono fun e w' he => ?_
   obtain ⟨rfl, hk, hs, hb⟩ := he
   exact ⟨_, rfl, .ext _ _ (.bool _), hk, hs, hb⟩
 · cases h
theorem zMf {W : World} (hW : Held W) : zmI prog (G0 W) cfg.prim := by
 intro f p h
 rcases zCr hW (show zFp f = some p from h) with h1 | ⟨rfl, rfl⟩
 · exact h1
 · exact zJX hW
end Go.Proofs.Tryz
