/- AnnotationText: for every annotation and string that hold together at most 1048576 values and letters, the law returns true. Condition: that bound (the Upto form). -/
import Derived.Test.YtppkbmfdaojgdaaGreatDoorCards
import Derived.Test.YtppkbmfdaojgdaaGreatDoorTie
import Derived.WalkKit
import Derived.ProofKit
import Derived.OpenShut
import Derived.Deep.DeepHandedRow
import Derived.Deep.DeepWitnessRowRef
import Derived.Lib.LaidTab
import Derived.LaidSub
import Derived.MakeChecks
import Derived.Lay
import Derived.Carry
import Derived.ChangeMaps5
import Derived.Test.YtppkbmfdaojgdaaGreatDoorT11
import Derived.Test.YtppkbmfdaojgdaaGreatDoorT17
set_option linter.all false
set_option maxRecDepth 100000
namespace Go.Proofs.Tryz
open Go Go.Ev Go.RowKit
theorem law_calls {W : World} (hW : Held W) {a : Sl zal} {b : Str} (h : zbv a.l ∧ zIR a ≤ 4194304) {vals : Array Value} (ι : Ev.Loc) (hargs : zgD (zun W) W ι (zsW []) vals.toList [dSl zap a, .str b]) :
 Calls prog 3 vals W fun e w' => e = .returned (.bool true) ∧ Below W.heap.size W w' := by
 obtain ⟨N, hN⟩ := zqz a b h
 refine (zJ2 (C := cfg) zMJ mixed rfl (zJG W) (zJm hW) zMR (hN N (Nat.le_refl _)) (zOi W) ι hargs).mono fun e w' he => ?_
 obtain ⟨he, hk, hs, hb⟩ := he
 exact ⟨he, hk.os, hk.tape, hk.output, hs, hb⟩
def annT : zxb prog where
 i64 := 2
 int := 3
 str := 9
 ann := 23
 term := 46
 row := 35
 factors := 44
 factor := 54
 atom := 52
 anns := 42
 items := 48
 item := 77
 val := 50
 fi64 := underlying2
 fint := underlying3
 fstr := underlying9
 fann := underlying23
 ffactors := underlying44
 fanns := underlying42
 fitems := underlying48
 fterm := ⟨_, underlying46, by kernel_rfl, by kernel_rfl⟩
 ffactor := ⟨_, underlying54, by kernel_rfl, by kernel_rfl⟩
 fatom := ⟨_, underlying52, by kernel_rfl, by kernel_rfl⟩
 frow := ⟨_, underlying35, by kernel_rfl, by kernel_rfl⟩
 fitem := ⟨_, underlying77, by kernel_rfl, by kernel_rfl⟩
 fval := ⟨_, underlying50, by kernel_rfl, by kernel_rfl⟩
 c1 := by kernel_rfl
 c2 := by kernel_rfl
 c3 := by kernel_rfl
 c4 := by kernel_rfl
 c5 := by kernel_rfl
 c6 := by kernel_rfl
 c7 := by kernel_rfl
 c8 := by kernel_rfl
 c9 := by kernel_rfl
 c10 := by kernel_rfl
 c11 := by kernel_rfl
 c12 := by kernel_rfl
 c13 := by kernel_rfl
theorem err_cell {W : World} {name nm : String} {d : DataW Unit} {g : Nat} (hg : prog.globalNamed name = some g) (hty : (prog.globals[g]?).map (·.type) = some 123) (h : laidMet prog [(name, .iface nm d)] W) : ∃ v, W.cell? ⟨g, 0, none⟩ = some v ∧ (v = .nilIface ∨ ∃ te pe, v = .iface te pe) := by
 obtain ⟨ps, ⟨g', t', cs, fuel, p, q, hg', ht', hvar, hd, _, _⟩, _⟩ := h
 obtain rfl := Option.some.inj (hg.symm.trans hg')
 obtain rfl := Option.some.inj (hty.symm.trans ht')
 obtain ⟨f, u, v, hcs, _, _⟩ := iface_of_trod underlying123 hd
 refine ⟨.iface u v, ?_, .inr ⟨u, v, rfl⟩⟩
 rw [World.var?_cell hg hvar 0, ← Array.getElem?_toList, hcs]; rfl
theorem one_of {W : World} {l : List (String × DataW Unit)} {n : String} {d : DataW Unit} (h : laidMetH prog l W) (e : l.filter (fun x => x.1 == n) = [(n, d)]) (hn : d.handleName?.isNone = true) : laidMet prog [(n, d)] W := by
 have h1 := h.filter (fun x => x.1 == n)
 rw [e, MakeChecks.laidMetH_plain _ _ _ (by simp [hn])] at h1
 exact h1
end Go.Proofs.Tryz
namespace Go.Proofs.YtppkbmfdaojgdaaGreatDoor.annotationText
open Go.ChangeShapes Go.WideShapes Go.ChangeAt Go.RowKit Go.Ev
theorem own : ownKnob Tryz.prog.godebug = none := by kernel_rfl
theorem zJE : laidOutB Tryz.prog = true := by kernel_rfl
theorem zNM {W : World} (hL : laidMetH Tryz.prog Rows.annotationTextUptoRow.laid W) (hS : W.ShapedOpen Tryz.prog) : Tryz.Held W where
 pow := Lib.tabIs_of_head (rest := []) (g := 0) (t := 184) (e := 130) (n := 20) (by kernel_rfl) (by kernel_rfl) Tryz.underlying184 Tryz.underlying130 (by kernel_rfl) (by kernel_rfl) (Tryz.one_of hL (by kernel_rfl) (by kernel_rfl))
 maxLen := by
  obtain ⟨m, hm⟩ := Go.Proofs.cell_of_shapedOpen_int (g := 1) (zero := #[.int .i64 0]) (t := 3) hS (of_decide_eq_true (by kernel_rfl)) (by kernel_rfl) rfl (by kernel_rfl) (by kernel_rfl) Tryz.underlying3
  exact ⟨1, m, by kernel_rfl, hm⟩
 synt := by
  obtain ⟨v, h1, h2⟩ := Tryz.err_cell (g := 4) (name := "strconv.ErrSyntax") (by kernel_rfl) (by kernel_rfl) (Tryz.one_of hL (d := Rows.laid_strconv_ErrSyntax) (by kernel_rfl) (by kernel_rfl))
  exact ⟨4, v, by kernel_rfl, h1, h2⟩
 range := by
  obtain ⟨v, h1, h2⟩ := Tryz.err_cell (g := 5) (name := "strconv.ErrRange") (by kernel_rfl) (by kernel_rfl) (Tryz.one_of hL (d := Rows.laid_strconv_ErrRange) (by kernel_rfl) (by kernel_rfl))
  exact ⟨5, v, by kernel_rfl, h1, h2⟩
mutual
theorem zpq {H : Type} : ∀ (d : DataW H), zgU d ≤ Rows.uptoBulk d
 | .lit (.string bytes) => Nat.le_refl _
 | .lit (.bool _) => Nat.le_refl _
 | .lit (.int _ _) => Nat.le_refl _
 | .lit (.float _ _) => Nat.le_refl _
 | .lit .nil => Nat.le_refl _
 | .nil => Nat.le_refl _
 | .ptr d => by have := zpq d; simp only [zgU, Rows.uptoBulk]; omega
 | .slice e s => by have := zw9 e; have := zw9 s; simp only [zgU, Rows.uptoBulk]; omega
 | .agg p => by have := zw9 p; simp only [zgU, Rows.uptoBulk]; omega
 | .iface _ d => by have := zpq d; simp only [zgU, Rows.uptoBulk]; omega
 | .map e => by have := zGG e; simp only [zgU, Rows.uptoBulk]; omega
 | .held _ => Nat.le_refl _
theorem zw9 {H : Type} : ∀ (l : List (DataW H)), zvw l ≤ Rows.uptoBulkAll l
 | [] => Nat.le_refl _
 | d :: r => by have := zpq d; have := zw9 r; simp only [zvw, Rows.uptoBulkAll]; omega
theorem zGG {H : Type} : ∀ (l : List (Lit × DataW H)), zMp l ≤ Rows.uptoBulkEntries l
 | [] => Nat.le_refl _
 | x :: r => by have := zMo x; have := zGG r; simp only [zMp, Rows.uptoBulkEntries]; omega
theorem zMo {H : Type} : ∀ (x : Lit × DataW H), zFs x ≤ Rows.uptoBulkEntry x
 | (.string _, d) => by have := zpq d; simp only [zFs, Rows.uptoBulkEntry]; omega
 | (.bool _, d) => by have := zpq d; simp only [zFs, Rows.uptoBulkEntry]; omega
 | (.int _ _, d) => by have := zpq d; simp only [zFs, Rows.uptoBulkEntry]; omega
 | (.float _ _, d) => by have := zpq d; simp only [zFs, Rows.uptoBulkEntry]; omega
 | (.nil, d) => by have := zpq d; simp only [zFs, Rows.uptoBulkEntry]; omega
end
theorem zGC (H : Type) (enc : TypeId × Value → H) (W : World) (base : Nat) (args : Array Value) (ds gs : List (DataW H)) (before : List MemPlace)
 (hval : ∀ (j : Nat) t v, Tryz.f3.params[j]? = some t → args[j]? = some v → Value.okWide Tryz.prog W .any base t v)
 (hW : DataW.Whole enc Tryz.prog Tryz.f3.params.toList Rows.annotationTextSpec.vars false W args.toList ds gs before) (hcond : Rows.uptoSmall H (ds ++ gs) = true)
 (hL : laidMetH Tryz.prog Rows.annotationTextUptoRow.laid W) (hS : W.ShapedOpen Tryz.prog) :
 Calls Tryz.prog 3 args W fun e W' => ∃ v, e = .returned v ∧ Rows.annotationTextSpec.post enc Tryz.prog Tryz.f3 false true false false W args v W' := by
 have hW' := hW
 obtain ⟨p, q, hA0, hV, rfl, hfz, hnd⟩ := hW
 have hA : DataW.TrodAll enc Tryz.prog W 0 (fun _ => true) true Tryz.f3.params.toList args.toList ds p := hA0
 rw [Tryz.params3] at hA hval
 obtain ⟨v0, v1, d0, d1, p0, p1, rfl, rfl, rfl, h0, h1⟩ := trodAll_two hA
 obtain ⟨rfl, rfl⟩ := trodVars_none hV
 clear hA0
 simp only [List.append_nil] at hW'
 have hlt : ∀ x ∈ p0 ++ p1, x.block < W.heap.size := fun x hx => by simpa using hW'.lt x hx
 have k0 := h0
 have k1 := h1
 obtain ⟨s, rfl, rfl, rfl, hs⟩ := Go.ChangeMaps.open_string Tryz.underlying9 (hval 1 9 v1 rfl rfl) h1
 obtain ⟨a0, len0, cap0, rfl⟩ := okWide_slice Tryz.underlying23 (hval 0 23 v0 rfl rfl)
 obtain ⟨f0, hf0⟩ := h0
 obtain ⟨a, hce, hq⟩ := (zEC Tryz.annT f0).2.1 _ d0 p0 hf0
 have hb : zgU d0 ≤ 1048576 := by
  have h2 := of_decide_eq_true hcond
  have h3 := zpq d0
  simp only [List.cons_append, List.nil_append, Rows.uptoBulkAll] at h2
  omega
 have hrep : zkQ (zun W) W (.slice a0 len0 cap0) (dSl zap a) := hce.2.1 0 _ _ rfl rfl
 refine (Tryz.law_calls (zNM hL hS) (a := a) (b := s.data.toList) ⟨hq.1, by have := hq.2; unfold zIR; omega⟩ (fun _ => (0, 0)) (zgD.cons (.ext _ _ hrep) (zgD.cons (.ext _ _ (.str _)) zgD.nil))).mono fun e W' he => ?_
 obtain ⟨rfl, hbelow⟩ := he
 refine ⟨_, rfl, _, _, _, [], _, [], hW', ?_, trodAll_mk2 (Below.trod zJE (by kernel_rfl) (of_decide_eq_true (by kernel_rfl)) k0 hbelow (fun x hx => hlt x (List.mem_append.2 (.inl hx)))) (Below.trod zJE (by kernel_rfl) (of_decide_eq_true (by kernel_rfl)) k1 hbelow (fun x hx => by cases hx)), rfl, hbelow.frame _, fun h => by cases h⟩
 exact trodAll_mk1 (shut_bool Tryz.underlying4 _)
theorem zLT (os : Os) : laidMetH Tryz.prog Rows.annotationTextUptoRow.laid ((World.laidAll Tryz.prog os Rows.annotationTextUptoRow.laid).forCall (fun _ _ => 0) ⟨#[], #[.slice none 0 0, .string ⟨#[]⟩], []⟩).memory := by
 rw [MakeChecks.laidMetH_plain _ _ _ (by kernel_rfl)]
 exact laidMet_laidAll _ (by kernel_rfl) (by kernel_rfl)
theorem zAQ (os : Os) {H : Type} (enc : TypeId × Value → H) : ∃ places, DataW.whole enc Tryz.prog ((World.laidAll Tryz.prog os Rows.annotationTextUptoRow.laid).forCall (fun _ _ => 0) ⟨#[], #[.slice none 0 0, .string ⟨#[]⟩], []⟩).memory Tryz.f3.params.toList Rows.annotationTextSpec.vars false #[Value.slice none 0 0, .string ⟨#[]⟩].toList 8 = some ([.nil, .lit (.string [])], [], places) :=
 ⟨[], by kernel_rfl⟩
theorem zHy (os : Os) (started : os.Started) (H : Type) (enc : TypeId × Value → H) (F : Stop.Interp) :
 ReturnsInHanded {} Tryz.checked os 3 .any ((Rows.OpenSpec.upto Rows.annotationTextSpec).preRow enc Tryz.prog Tryz.f3 Rows.annotationTextUptoRow.domain false Rows.annotationTextUptoRow.laid) (((Rows.OpenSpec.upto Rows.annotationTextSpec).at F).post enc Tryz.prog Tryz.f3 false true false false) := by
 obtain ⟨places, hx⟩ := zAQ os enc
 refine returnsInHanded_of_row (C := Tryz.checked) (s := Rows.OpenSpec.upto Rows.annotationTextSpec) own started (by kernel_rfl) Tryz.func3
  (witness_row_atRef (enc := enc) (C := Tryz.checked) false (World.laidAll Tryz.prog os Rows.annotationTextUptoRow.laid) #[.slice none 0 0, .string ⟨#[]⟩] (World.laidAll_os _ _ _) (by kernel_rfl) (by kernel_rfl) (by kernel_rfl)
   (OpenSpec.preRow_of_cond 8 hx (by kernel_rfl) (fun k hk => by cases hk; kernel_rfl) (by kernel_rfl) (zLT os))) ?_
 intro W base args ds gs before hval hW _ hcond _ hL hS _
 exact zGC H enc W base args ds gs before hval hW (hcond _ rfl) hL hS
theorem zLu : Rows.AnnotationTextUptoSaid :=
 OpenClaim.holds_of_cond 3 Tryz.f3 rfl rfl rfl rfl rfl rfl rfl ⟨rfl, rfl, rfl, rfl, rfl⟩ rfl rfl rfl rfl rfl (by kernel_rfl) Tryz.func3 (by kernel_rfl)
  (of_decide_eq_true (by kernel_rfl)) (by unfold Func.isWrapper; first | (rw [if_pos (by decide +kernel)]; kernel_rfl) | (rw [if_neg (by decide +kernel)]; exact ⟨rfl, rfl⟩))
  (fun os started H enc _ F => by rw [OpenClaim.pre_eq_preRow]; exact zHy os started H enc F)
theorem zfU (f : FuncId) (fn : Func) (hf : Tryz.pinned.checked.prog.funcNamed "lineage/lineagelaw05.AnnotationText" = some f) (hfn : Tryz.pinned.checked.prog.funcs[f]? = some fn) :
 true = Tryz.pinned.checked.prog.looks [] ∧ ∀ (j : Nat) t, fn.params[j]? = some t → Tryz.pinned.checked.prog.wantsStandIn t = false := by
 obtain rfl : f = 3 := Option.some.inj ((show Tryz.prog.funcNamed "lineage/lineagelaw05.AnnotationText" = some 3 by kernel_rfl).symm.trans hf) |>.symm
 obtain rfl : fn = Tryz.f3 := (Option.some.inj (Tryz.func3.symm.trans hfn)).symm
 refine ⟨by kernel_rfl, fun j t ht => ?_⟩
 rw [Tryz.params3] at ht
 match j with
 | 0 => obtain rfl := Option.some.inj ht; exact (show Tryz.prog.wantsStandIn 23 = false by kernel_rfl)
 | 1 => obtain rfl := Option.some.inj ht; exact (show Tryz.prog.wantsStandIn 9 = false by kernel_rfl)
 | n + 2 => simp at ht
theorem cardUpto : Rows.AnnotationTextUptoCardSaid :=
 Claim7.holds_tied_plain_at .later [] _ _ _ _ zLu (fun _ h => by cases h) (by kernel_rfl) (fun _ h => by cases h) annotationTextUpto_row_tie rfl ⟨rfl, rfl⟩ (by kernel_rfl) rfl zfU (by kernel_rfl)
end Go.Proofs.YtppkbmfdaojgdaaGreatDoor.annotationText
