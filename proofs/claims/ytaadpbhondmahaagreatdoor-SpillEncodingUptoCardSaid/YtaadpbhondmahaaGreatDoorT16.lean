/- Part of a proof. -/
import Derived.Below
import Derived.Lib.AppendIntMem
import Derived.Test.YtaadpbhondmahaaGreatDoorT5
import Derived.Test.YtaadpbhondmahaaGreatDoorT15
set_option linter.all false
namespace Go.Ev
open Go Go.RowKit
def G0 (W : World) (S : Nat -> Prop) (w : World) : Prop := Below W.heap.size W w /\ ∀ r, r < W.heap.size -> S r
theorem zMC (W : World) : zEp (G0 W) := by
 refine ⟨fun S w S' w' h hS hh hsz hk => ?_⟩
 obtain ⟨hb, hr⟩ := h
 refine ⟨⟨hk.os.trans hb.os, hk.tape.trans hb.tape, hk.output.trans hb.output, Nat.le_trans hb.size hsz, fun k hk' => ?_⟩, fun r hr' => hS r (hr r hr')⟩
 rw [hh k (hr k hk')]; exact hb.block k hk'
theorem zRp (W : World) : G0 W (zuS W) W := ⟨Below.refl _ _, fun _ h => h⟩
section
variable {S : Nat -> Prop} {w w' : World} {ι : Loc} {m : Mem}
theorem zvR {B : Nat} (h : Below B w w') : Kin w w' := ⟨h.os, h.tape, h.output⟩
def zww (S : Nat -> Prop) (w : World) (ι : Loc) (m : Mem) (d : D) (e : Ending) (w' : World) : Prop :=
 ∃ v, e = .returned v /\ Rep S w' ι m v d /\ Kin w w' /\ w.heap.size <= w'.heap.size /\ ∀ r, r < w.heap.size -> w'.heap[r]? = w.heap[r]?
theorem zj1 {s : Str} {e : Ending} (he : e = .returned (.string ⟨s.toArray⟩)) (h : Below w.heap.size w w') : zww S w ι m (.str s) e w' :=
 ⟨_, he, .ext _ _ (.str s), zvR h, h.size, h.block⟩
theorem zFo {k : IntKind} {n : Int} {e : Ending} (he : e = .returned (.int k n)) (h : Below w.heap.size w w') : zww S w ι m (.int k n) e w' :=
 ⟨_, he, .ext _ _ (.int k n), zvR h, h.size, h.block⟩
theorem zDw {b : Bool} {e : Ending} (he : e = .returned (.bool b)) (h : Below w.heap.size w w') : zww S w ι m (.bool b) e w' :=
 ⟨_, he, .ext _ _ (.bool b), zvR h, h.size, h.block⟩
theorem zWn {a : D} {vals : Array Value} (h : zgH S w ι m vals.toList [a]) : ∃ v, vals = #[v] /\ Rep S w ι m v a := by
 obtain ⟨h1, h2⟩ := h
 rcases vals with ⟨l⟩
 match l, h1, h2 with
 | [v], _, h2 => exact ⟨v, rfl, h2 0 v a rfl rfl⟩
theorem zK3 {a b : D} {vals : Array Value} (h : zgH S w ι m vals.toList [a, b]) : ∃ v u, vals = #[v, u] /\ Rep S w ι m v a /\ Rep S w ι m u b := by
 obtain ⟨h1, h2⟩ := h
 rcases vals with ⟨l⟩
 match l, h1, h2 with
 | [v, u], _, h2 => exact ⟨v, u, rfl, h2 0 v a rfl rfl, h2 1 u b rfl rfl⟩
theorem zWm {a b c : D} {vals : Array Value} (h : zgH S w ι m vals.toList [a, b, c]) : ∃ v u x, vals = #[v, u, x] /\ Rep S w ι m v a /\ Rep S w ι m u b /\ Rep S w ι m x c := by
 obtain ⟨h1, h2⟩ := h
 rcases vals with ⟨l⟩
 match l, h1, h2 with
 | [v, u, x], _, h2 => exact ⟨v, u, x, rfl, h2 0 v a rfl rfl, h2 1 u b rfl rfl, h2 2 x c rfl rfl⟩
theorem zOs {f : Fl} {xs : List Str} {v : Value} (h : Rep S w ι m v (.sl f (xs.map zsz))) (hs : ∀ r, S r -> r < w.heap.size) :
 (xs = [] /\ ∃ a c, v = .slice a 0 c) ∨ ∃ b o c, v = .slice (some ⟨b, o, none⟩) xs.length c /\ b < w.heap.size /\ xs.length <= c /\ ∀ (j : Nat) x, xs[j]? = some x -> w.cell? ⟨b, o + j, none⟩ = some (.string ⟨x.toArray⟩) := by
 cases h with
 | ext _ _ h =>
   generalize hr : xs.map zsz = rows at h
   cases h with
   | nilsl => exact .inl ⟨by simpa using hr, none, 0, rfl⟩
   | esl _ a _ => exact .inl ⟨by simpa using hr, some a, 0, rfl⟩
   | sl _ _ b o cap sz u hf hfull hcap hsz hlen hst hc hrr hcell =>
     subst hr
     by_cases hx : xs = []
     · subst hx; exact .inl ⟨rfl, _, _, rfl⟩
     · refine .inr ⟨b, o, cap, by simp, hs _ (hst (by simpa using hx)), by simpa using hcap, fun j x hj => ?_⟩
       have hg : (xs.map zsz)[j]? = some (zsz x) := zav hj zsz
       have h1 : sz = 1 := by have := hlen _ (yL hg); simpa [zsz] using this.symm
       subst h1
       have hd : zzl (xs.map zsz) j 0 = some (.str x) := by unfold zzl; rw [hg]; rfl
       have a1 := hc j 0 _ hd
       have a2 := hrr j 0 _ hd
       simp only [Nat.mul_one, Nat.add_zero] at a1
       generalize u j 0 = y at a1 a2
       cases a2
       exact a1
end
end Go.Ev
