/- Part of a proof. -/
import Derived.RangeFuncLeaves
import Derived.RangeFuncGives
import Derived.RangeFuncRecord
import Derived.RangeFuncOwn
import Derived.WalkKit
import Derived.OwnWalkIn
import Derived.TacticsInMore
import Derived.BigFrameIn
import Derived.LoopNIn
import Derived.LoopIn
import Derived.Laws.IdiomRangeMap
import Derived.Shelf.Abstract
import Derived.KernelRfl
import Derived.Test.YtaadpbhondmahaaGreatDoorProg
set_option linter.all false
set_option maxRecDepth 100000
namespace Go.Proofs.Tryz
open Go Go.RowKit
set_option maxHeartbeats 4000000 in
theorem zEO (F : Fence) (n : Nat) (hF : F.fn 112) (hro : F.round = none) (l : Nat) (a : Addr) (r clock : Nat) (W : World) (hm : W.cell? a = some (.map (some r))) (hb : W.heap[r]? = some (.map #[] clock)) :
 CallsIn F n prog 112 #[.func (.yield l) #[] #[], .pointer (some a)] W fun e W' => (∃ v, e = .returned v) /\ Below W.heap.size W W' := by
 refine callsIn_of_wp func112 rfl hF ?_ hro
 simp only [ntmps112, List.size_toArray, List.length_cons, List.length_nil, Nat.reduceAdd, Nat.reduceSub, Array.replicate_succ, Array.replicate_zero, List.push_toArray, List.append_toArray, List.nil_append, List.cons_append]
 have hrg := run_range_map (P := prog) W 78 3 83 r #[] clock underlying78 hb
 have hnx : ∀ ty, (Instr.next (.pointer (some ⟨W.heap.size, 0, none⟩)) false ty).run prog (W.alloc (.mapIter (some r) clock #[] clock)) = .ok (.tuple #[.bool false]) (W.alloc (.mapIter (some r) clock #[] clock)) := by
  intro ty
  rcases run_next_map (P := prog) W ty r clock clock #[] #[] clock hb (by simp) (Nat.le_refl _) with ⟨_, h⟩ | ⟨e, he, _⟩
  · exact h
  · simp [leftOf] at he
 gi_wp2
 refine wpIn_loop_rounds 1 ?_
 rw [roundsIn_succ]
 gi_wp2
 go_end0
 exact ⟨⟨_, rfl⟩, (Below.refl _ W).alloc (Nat.le_refl _) _⟩
def zzV : Code -> Code × Code
 | .rangeFunc _ _ a b => (a, b)
 | .block _ c => zzV c
 | .seq a b => match zzV a with
   | (.skip, .skip) => zzV b
   | p => p
 | _ => (.skip, .skip)
noncomputable def z1S : Code := (zzV (f111.body.getD .skip)).1
noncomputable def z1R : Code := (zzV (f111.body.getD .skip)).2
set_option maxHeartbeats 4000000 in
theorem zAK (F : Fence) (n : Nat) (hF : F.fn 111) (hF2 : F.fn 112) (hro : F.round = none) (hn : 2 <= n) (a : Addr) (r clock : Nat) (w : World) (ha : a.block < w.heap.size) (hr : r < w.heap.size) (hm : w.cell? a = some (.map (some r))) (hb : w.heap[r]? = some (.map #[] clock)) :
 CallsIn F n prog 111 #[.slice none 0 0, .func (.func 112) #[] #[.pointer (some a)]] w fun e w' => e = .returned (.slice none 0 0) /\ Below w.heap.size w w' := by
 have h1 : 1 <= n := by omega
 refine callsIn_of_wp_marks func111 rfl hF ?_ hro
 simp only [ntmps111, List.size_toArray, List.length_cons, List.length_nil, Nat.reduceAdd, Nat.reduceSub, Array.replicate_succ, Array.replicate_zero, List.push_toArray, List.append_toArray, List.nil_append, List.cons_append]
 gi_wp2
 refine wpIn_rangeFunc ?_
 intro fn hfn
 rw [hro]
 obtain ⟨W0, hW0⟩ : ∃ W0, w.alloc (.cells #[.slice none 0 0] 121) = W0 := ⟨_, rfl⟩
 have hs0 : W0.heap.size = w.heap.size + 1 := by rw [<- hW0]; simp
 have hv0 : W0.heap[w.heap.size]? = some (.cells #[.slice none 0 0] 121 (0, 0)) := by rw [<- hW0]; exact World.alloc_heap_new w _
 have hb0 : Below w.heap.size w W0 := by rw [<- hW0]; exact (Below.refl _ w).alloc (Nat.le_refl _) _
 rw [hW0]
 obtain ⟨rec, hrec⟩ : ∃ rec : Loop, rec = { state := .ready, pending := none, fn, tmps := #[.slice none 0 0, .func (.func 112) #[] #[.pointer (some a)], .pointer (some ⟨w.heap.size, 0, none⟩), undef, .slice none 0 0, undef, .func (.func 112) #[] #[.pointer (some a)], undef, undef, undef, undef, undef, undef], params := #[7], assign := z1S, body := z1R, defers := W0.heap.size } := ⟨_, rfl⟩
 refine ⟨W0.heap.size + 1, [{ target := .collected W0.heap.size, args := #[] }], (W0.alloc (.deferred (some []))).alloc (.loop rec), { target := .fn (.func 112) #[.pointer (some a)], args := #[.func (.yield (W0.heap.size + 1)) #[] #[]] }, (W0.alloc (.deferred (some []))).alloc (.loop rec), 112, #[.func (.yield (W0.heap.size + 1)) #[] #[]] ++ #[.pointer (some a)], (W0.alloc (.deferred (some []))).alloc (.loop rec), ?_, ?_, ?_, ?_, fun _ => h1, ?_⟩
 · rw [hrec]; exact run_enterLoop_outer _ _ _ _ _
 · simp [resolve, go_sem]
 · intro f' hf'; simp [Target.leads] at hf'; subst hf'; exact hF2
 · have e112 : ∀ args w, (callFunc 112 args).run prog w = .ok (.enter 112 args) w := enters_of func112 (by kernel_rfl) rfl
   simp [invoke, go_sem, e112]
 · skip
   obtain ⟨W1, hW1⟩ : ∃ W1, (W0.alloc (.deferred (some []))).alloc (.loop rec) = W1 := ⟨_, rfl⟩
   rw [hW1]
   have hold : ∀ k, k < W0.heap.size -> W1.heap[k]? = W0.heap[k]? := fun k hk => by
    rw [<- hW1]; exact (Below.heap_alloc _ _ k (by simp; omega)).trans (Below.heap_alloc _ _ k hk)
   have hb1 : Below w.heap.size w W1 := by rw [<- hW1]; exact (hb0.alloc hb0.size _).alloc (by have := hb0.size; simp; omega) _
   have hs1 : W1.heap.size = W0.heap.size + 2 := by rw [<- hW1]; simp
   have hL1 : W1.heap[W0.heap.size + 1]? = some (.loop rec) := by
    rw [<- hW1]; have := World.alloc_heap_new (W0.alloc (.deferred (some []))) (.loop rec); rwa [World.size_alloc] at this
   have hK1 : W1.heap[W0.heap.size]? = some (.deferred (some [])) := by rw [<- hW1]; exact (Below.heap_alloc _ _ _ (by simp)).trans (World.alloc_heap_new W0 _)
   have hv1 : W1.heap[w.heap.size]? = some (.cells #[.slice none 0 0] 121 (0, 0)) := (hold _ (by omega)).trans hv0
   refine (zEO F (n - 1) hF2 hro (W0.heap.size + 1) a r clock W1 ?_ ?_).mono ?_
   · rw [World.cell?_of_block (w := w) (hb1.block _ ha)]; exact hm
   · exact (hb1.block _ hr).trans hb
   rintro e W2 ⟨⟨v0, rfl⟩, hb2⟩
   have hL2 := (hb2.block (W0.heap.size + 1) (by omega)).trans hL1
   have hK2 := (hb2.block W0.heap.size (by omega)).trans hK1
   have hv2 := (hb2.block w.heap.size (by omega)).trans hv1
   have hend := run_endLoop (P := prog) hL2 (by rw [hrec]; simp)
   have hp : rec.pending = none := by rw [hrec]
   obtain ⟨W3, hW3⟩ : ∃ W3, W2.putObj (W0.heap.size + 1) (.loop { rec with state := .exhausted }) = W3 := ⟨_, rfl⟩
   rw [hW3, hp] at hend
   have hK3 : W3.heap[W0.heap.size]? = some (.deferred (some [])) := by rw [<- hW3]; exact (World.putObj_heap_other (by omega)).trans hK2
   have hv3 : W3.heap[w.heap.size]? = some (.cells #[.slice none 0 0] 121 (0, 0)) := by rw [<- hW3]; exact (World.putObj_heap_other (by omega)).trans hv2
   have hb3 : Below w.heap.size w W3 := by
    rw [<- hW3]
    exact (hb1.trans (hb2.mono (by omega))).grown ⟨rfl, rfl, rfl, by simp, fun k _ hk => World.putObj_heap_other (fun e => hk (by rw [e]))⟩ (by have := hb1.size; have := hb2.size; omega) (fun k e => by cases e; omega)
   have hc3 : W3.cell? ⟨w.heap.size, 0, none⟩ = some (.slice none 0 0) := by simp [World.cell?, hv3]
   clear hW3
   refine ⟨none, W3, hend, ?_⟩
   gi_wp2
   refine ⟨by simp, .inl ⟨_, _, ?_, run_takeDeferred hK3, ?_⟩⟩
   · rw [hs0]
   · exact ⟨_, results_tmp rfl _ _ _, rfl, hb3.grown ⟨rfl, rfl, rfl, by simp, fun k _ hk => World.putObj_heap_other (fun e => hk (by rw [e]))⟩ hb3.size (fun k e => by cases e; omega)⟩
end Go.Proofs.Tryz
