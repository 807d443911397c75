/- Part of a proof. -/
import Derived.Test.YtaadpbhondmahaaGreatDoorCards
import Derived.Test.YtaadpbhondmahaaGreatDoorTie
import Derived.WalkKit
import Derived.ProofKit
import Derived.OpenShut
import Derived.Deep.DeepHandedRow
import Derived.Deep.DeepWitnessRowRef
import Derived.Lib.LaidTab
import Derived.LaidSub
import Derived.MakeChecks
import Derived.Lay
import Derived.Carry
import Derived.ChangeMaps5
import Derived.Test.YtaadpbhondmahaaGreatDoorT11
import Derived.Test.YtaadpbhondmahaaGreatDoorT19
set_option linter.all false
set_option maxRecDepth 100000
set_option maxHeartbeats 1000000
namespace Go.Proofs.Tryz
open Go Go.Ev Go.RowKit
theorem law_spillDecoding {W : World} (hW : Held W) {a : Sl Int} (h : okD a) {vals : Array Value} (ι : Ev.Loc) (hargs : zfl (zqH W) W ι (zl1 []) vals.toList [dSl (cI .u8) a]) :
 Calls prog 4 vals W fun e w' => e = .returned (.bool true) ∧ Below W.heap.size W w' := by
 obtain ⟨N, hN⟩ := zop a h
 refine (zC3 (C := cfg) zFI mixed rfl (zCE W) (zCn hW) (zxP fun _ => rfl) zFU (hN N (Nat.le_refl _)) (zHp W) ι hargs).mono fun e w' he => ?_
 obtain ⟨he, hk, hs, hb⟩ := he
 exact ⟨he, hk.os, hk.tape, hk.output, hs, hb⟩
theorem zDq {t n : Nat} (h : prog.cellsOf t = n + 1) : 0 < prog.cellsOf t := by omega
theorem reads_bytes {H : Type} {enc : TypeId × Value → H} {w : World} {held : Bool} (fuel : Nat) : zwo enc prog w held fuel 27 (cSl (cI .u8)) (fun s d => (∀ x ∈ s.l, (Lit.int .u8 x).wf = true) ∧ s.l.length + 1 ≤ zg9 d) := by
 cases fuel with
 | zero => exact zuK
 | succ fuel =>
   refine (zyu underlying27 (zDq (n := 0) (by kernel_rfl)) (fun x => by show 1 = prog.cellsOf 5; kernel_rfl) ((zCd underlying5 fuel).mono (Q' := fun x y => (Lit.int .u8 x).wf = true ∧ 1 ≤ zg9 y) fun x d h => ⟨h.2, zFj d⟩)).mono fun s d h => ?_
   have h1 := zE5 (W := fun x => (Lit.int .u8 x).wf = true) (f := fun _ => 1) h
   have h2 : ∀ l : List Int, zfB (fun _ => 1) l = l.length := fun l => by
    induction l with
    | nil => rfl
    | cons x l ih => simp only [zfB, List.length_cons, ih]; omega
   rw [h2] at h1; exact h1
theorem wf_u8 {n : Int} (h : (Lit.int .u8 n).wf = true) : 0 ≤ n ∧ n < 256 := by
 simp only [Lit.wf, Bool.and_eq_true, decide_eq_true_eq] at h
 have h1 : IntKind.u8.min = 0 := rfl
 have h2 : IntKind.u8.max = 255 := rfl
 rw [h1, h2] at h
 omega
theorem err_cell {W : World} {name nm : String} {d : DataW Unit} {g : Nat} (hg : prog.globalNamed name = some g) (hty : (prog.globals[g]?).map (·.type) = some 187) (h : laidMet prog [(name, .iface nm d)] W) : ∃ v, W.cell? ⟨g, 0, none⟩ = some v ∧ (v = .nilIface ∨ ∃ te pe, v = .iface te pe) := by
 obtain ⟨ps, ⟨g', t', cs, fuel, p, q, hg', ht', hvar, hd, _, _⟩, _⟩ := h
 obtain rfl := Option.some.inj (hg.symm.trans hg')
 obtain rfl := Option.some.inj (hty.symm.trans ht')
 obtain ⟨f, u, v, hcs, _, _⟩ := iface_of_trod underlying187 hd
 refine ⟨.iface u v, ?_, .inr ⟨u, v, rfl⟩⟩
 rw [World.var?_cell hg hvar 0, ← Array.getElem?_toList, hcs]; rfl
theorem one_of {W : World} {l : List (String × DataW Unit)} {n : String} {d : DataW Unit} (h : laidMetH prog l W) (e : l.filter (fun x => x.1 == n) = [(n, d)]) (hn : d.handleName?.isNone = true) : laidMet prog [(n, d)] W := by
 have h1 := h.filter (fun x => x.1 == n)
 rw [e, MakeChecks.laidMetH_plain _ _ _ (by simp [hn])] at h1
 exact h1
end Go.Proofs.Tryz
namespace Go.Proofs.YtaadpbhondmahaaGreatDoor.spillEncoding
open Go.ChangeShapes Go.WideShapes Go.ChangeAt Go.RowKit Go.Ev
theorem own : ownKnob Tryz.prog.godebug = none := by kernel_rfl
mutual
theorem zgu {H : Type} : ∀ (d : DataW H), zg9 d ≤ Rows.uptoBulk d
 | .lit (.string bytes) => Nat.le_refl _
 | .lit (.bool _) => Nat.le_refl _
 | .lit (.int _ _) => Nat.le_refl _
 | .lit (.float _ _) => Nat.le_refl _
 | .lit .nil => Nat.le_refl _
 | .nil => Nat.le_refl _
 | .ptr d => by have := zgu d; simp only [zg9, Rows.uptoBulk]; omega
 | .slice e s => by have := zj0 e; have := zj0 s; simp only [zg9, Rows.uptoBulk]; omega
 | .agg p => by have := zj0 p; simp only [zg9, Rows.uptoBulk]; omega
 | .iface _ d => by have := zgu d; simp only [zg9, Rows.uptoBulk]; omega
 | .map e => by have := zqE e; simp only [zg9, Rows.uptoBulk]; omega
 | .held _ => Nat.le_refl _
theorem zj0 {H : Type} : ∀ (l : List (DataW H)), zui l ≤ Rows.uptoBulkAll l
 | [] => Nat.le_refl _
 | d :: r => by have := zgu d; have := zj0 r; simp only [zui, Rows.uptoBulkAll]; omega
theorem zqE {H : Type} : ∀ (l : List (Lit × DataW H)), zBm l ≤ Rows.uptoBulkEntries l
 | [] => Nat.le_refl _
 | x :: r => by have := zwh x; have := zqE r; simp only [zBm, Rows.uptoBulkEntries]; omega
theorem zwh {H : Type} : ∀ (x : Lit × DataW H), zrv x ≤ Rows.uptoBulkEntry x
 | (.string _, d) => by have := zgu d; simp only [zrv, Rows.uptoBulkEntry]; omega
 | (.bool _, d) => by have := zgu d; simp only [zrv, Rows.uptoBulkEntry]; omega
 | (.int _ _, d) => by have := zgu d; simp only [zrv, Rows.uptoBulkEntry]; omega
 | (.float _ _, d) => by have := zgu d; simp only [zrv, Rows.uptoBulkEntry]; omega
 | (.nil, d) => by have := zgu d; simp only [zrv, Rows.uptoBulkEntry]; omega
end
theorem zt4 (os : Os) {H : Type} (enc : TypeId × Value → H) : ∃ places, DataW.whole enc Tryz.prog ((World.laidAll Tryz.prog os Rows.spillEncodingUptoRow.laid).forCall (fun _ _ => 0) ⟨#[], #[.agg #[.slice none 0 0, .slice none 0 0], .slice none 0 0], []⟩).memory Tryz.f3.params.toList Rows.spillEncodingSpec.vars false (#[.agg #[.slice none 0 0, .slice none 0 0], .slice none 0 0] : Array Value).toList 8 = some ([.agg [.nil, .nil], .nil], [], places) :=
 ⟨[], by kernel_rfl⟩
end Go.Proofs.YtaadpbhondmahaaGreatDoor.spillEncoding
namespace Go.Proofs.YtaadpbhondmahaaGreatDoor.spillDecoding
open Go.ChangeShapes Go.WideShapes Go.ChangeAt Go.RowKit Go.Ev
theorem own : ownKnob Tryz.prog.godebug = none := by kernel_rfl
theorem zGM : laidOutB Tryz.prog = true := by kernel_rfl
theorem zGP {W : World} (hL : laidMetH Tryz.prog Rows.spillDecodingUptoRow.laid W) (hS : W.ShapedOpen Tryz.prog) : Tryz.Held W where
 pow := Lib.tabIs_of_head (rest := []) (g := 1) (t := 234) (e := 104) (n := 20) (by kernel_rfl) (by kernel_rfl) Tryz.underlying234 Tryz.underlying104 (by kernel_rfl) (by kernel_rfl) (Tryz.one_of hL (by kernel_rfl) (by kernel_rfl))
 maxLen := by
  obtain ⟨m, hm⟩ := Go.Proofs.cell_of_shapedOpen_int (g := 0) (zero := #[.int .i64 0]) (t := 3) hS (of_decide_eq_true (by kernel_rfl)) (by kernel_rfl) rfl (by kernel_rfl) (by kernel_rfl) Tryz.underlying3
  exact ⟨0, m, by kernel_rfl, hm⟩
 synt := by
  obtain ⟨v, h1, h2⟩ := Tryz.err_cell (g := 4) (name := "strconv.ErrSyntax") (by kernel_rfl) (by kernel_rfl) (Tryz.one_of hL (d := Rows.laid_strconv_ErrSyntax) (by kernel_rfl) (by kernel_rfl))
  exact ⟨4, v, by kernel_rfl, h1, h2⟩
 range := by
  obtain ⟨v, h1, h2⟩ := Tryz.err_cell (g := 5) (name := "strconv.ErrRange") (by kernel_rfl) (by kernel_rfl) (Tryz.one_of hL (d := Rows.laid_strconv_ErrRange) (by kernel_rfl) (by kernel_rfl))
  exact ⟨5, v, by kernel_rfl, h1, h2⟩
mutual
theorem zgu {H : Type} : ∀ (d : DataW H), zg9 d ≤ Rows.uptoBulk d
 | .lit (.string bytes) => Nat.le_refl _
 | .lit (.bool _) => Nat.le_refl _
 | .lit (.int _ _) => Nat.le_refl _
 | .lit (.float _ _) => Nat.le_refl _
 | .lit .nil => Nat.le_refl _
 | .nil => Nat.le_refl _
 | .ptr d => by have := zgu d; simp only [zg9, Rows.uptoBulk]; omega
 | .slice e s => by have := zj0 e; have := zj0 s; simp only [zg9, Rows.uptoBulk]; omega
 | .agg p => by have := zj0 p; simp only [zg9, Rows.uptoBulk]; omega
 | .iface _ d => by have := zgu d; simp only [zg9, Rows.uptoBulk]; omega
 | .map e => by have := zqE e; simp only [zg9, Rows.uptoBulk]; omega
 | .held _ => Nat.le_refl _
theorem zj0 {H : Type} : ∀ (l : List (DataW H)), zui l ≤ Rows.uptoBulkAll l
 | [] => Nat.le_refl _
 | d :: r => by have := zgu d; have := zj0 r; simp only [zui, Rows.uptoBulkAll]; omega
theorem zqE {H : Type} : ∀ (l : List (Lit × DataW H)), zBm l ≤ Rows.uptoBulkEntries l
 | [] => Nat.le_refl _
 | x :: r => by have := zwh x; have := zqE r; simp only [zBm, Rows.uptoBulkEntries]; omega
theorem zwh {H : Type} : ∀ (x : Lit × DataW H), zrv x ≤ Rows.uptoBulkEntry x
 | (.string _, d) => by have := zgu d; simp only [zrv, Rows.uptoBulkEntry]; omega
 | (.bool _, d) => by have := zgu d; simp only [zrv, Rows.uptoBulkEntry]; omega
 | (.int _ _, d) => by have := zgu d; simp only [zrv, Rows.uptoBulkEntry]; omega
 | (.float _ _, d) => by have := zgu d; simp only [zrv, Rows.uptoBulkEntry]; omega
 | (.nil, d) => by have := zgu d; simp only [zrv, Rows.uptoBulkEntry]; omega
end
theorem zz9 (H : Type) (enc : TypeId × Value → H) (W : World) (base : Nat) (args : Array Value) (ds gs : List (DataW H)) (before : List MemPlace)
 (hval : ∀ (j : Nat) t v, Tryz.f4.params[j]? = some t → args[j]? = some v → Value.okWide Tryz.prog W .any base t v)
 (hW : DataW.Whole enc Tryz.prog Tryz.f4.params.toList Rows.spillDecodingSpec.vars false W args.toList ds gs before) (hcond : Rows.uptoSmall H (ds ++ gs) = true)
 (hL : laidMetH Tryz.prog Rows.spillDecodingUptoRow.laid W) (hS : W.ShapedOpen Tryz.prog) :
 Calls Tryz.prog 4 args W fun e W' => ∃ v, e = .returned v ∧ Rows.spillDecodingSpec.post enc Tryz.prog Tryz.f4 false true false false W args v W' := by
 have hW' := hW
 obtain ⟨p, q, hA0, hV, rfl, hfz, hnd⟩ := hW
 have hA : DataW.TrodAll enc Tryz.prog W 0 (fun _ => true) true Tryz.f4.params.toList args.toList ds p := hA0
 rw [Tryz.params4] at hA hval
 obtain ⟨v0, r0, d0, e0, p0, q0, ha, rfl, rfl, h0, hA⟩ := trodAll_cons hA
 obtain ⟨rfl, rfl, rfl⟩ := trodAll_nil hA
 have ha : args = #[v0] := by cases args; simp_all
 subst ha
 obtain ⟨rfl, rfl⟩ := trodVars_none hV
 clear hA0 hA
 simp only [List.append_nil] at hW'
 have hlt : ∀ x ∈ p0, x.block < W.heap.size := fun x hx => by simpa using hW'.lt x hx
 have k0 := h0
 obtain ⟨a0, len0, cap0, rfl⟩ := okWide_slice Tryz.underlying27 (hval 0 27 v0 rfl rfl)
 obtain ⟨f0, hf0⟩ := h0
 obtain ⟨a, hc0, b0⟩ := Tryz.reads_bytes f0 _ d0 p0 hf0
 have hb : zg9 d0 ≤ 1048576 := by
  have hh := of_decide_eq_true hcond
  have g0 := zgu d0
  simp only [List.cons_append, List.nil_append, Rows.uptoBulkAll] at hh
  omega
 have hok : okD a := ⟨by omega, fun x hx => Tryz.wf_u8 (b0.1 x hx)⟩
 have hr0 : ziZ (zqH W) W (.slice a0 len0 cap0) (dSl (cI .u8) a) := hc0.2.1 0 _ _ rfl rfl
 refine (Tryz.law_spillDecoding (zGP hL hS) hok (fun _ => (0, 0)) (zfl.cons (.ext _ _ hr0) zfl.nil)).mono fun e W' he => ?_
 obtain ⟨rfl, hbelow⟩ := he
 refine ⟨_, rfl, _, _, _, [], _, [], hW', ?_, (trodAll_cons_mk (Below.trod zGM (by kernel_rfl) (of_decide_eq_true (by kernel_rfl)) k0 hbelow (fun x hx => hlt x (by simp [hx]))) trodAll_mk0), rfl, hbelow.frame _, fun h => by cases h⟩
 exact trodAll_mk1 (shut_bool Tryz.underlying4 _)
theorem zEQ (os : Os) : laidMetH Tryz.prog Rows.spillDecodingUptoRow.laid ((World.laidAll Tryz.prog os Rows.spillDecodingUptoRow.laid).forCall (fun _ _ => 0) ⟨#[], #[.slice none 0 0], []⟩).memory := by
 rw [MakeChecks.laidMetH_plain _ _ _ (by kernel_rfl)]
 exact laidMet_laidAll _ (by kernel_rfl) (by kernel_rfl)
theorem zt4 (os : Os) {H : Type} (enc : TypeId × Value → H) : ∃ places, DataW.whole enc Tryz.prog ((World.laidAll Tryz.prog os Rows.spillDecodingUptoRow.laid).forCall (fun _ _ => 0) ⟨#[], #[.slice none 0 0], []⟩).memory Tryz.f4.params.toList Rows.spillDecodingSpec.vars false (#[.slice none 0 0] : Array Value).toList 8 = some ([.nil], [], places) :=
 ⟨[], by kernel_rfl⟩
theorem zAT (os : Os) (started : os.Started) (H : Type) (enc : TypeId × Value → H) (F : Stop.Interp) :
 ReturnsInHanded {} Tryz.checked os 4 .any ((Rows.OpenSpec.upto Rows.spillDecodingSpec).preRow enc Tryz.prog Tryz.f4 Rows.spillDecodingUptoRow.domain false Rows.spillDecodingUptoRow.laid) (((Rows.OpenSpec.upto Rows.spillDecodingSpec).at F).post enc Tryz.prog Tryz.f4 false true false false) := by
 obtain ⟨places, hx⟩ := zt4 os enc
 refine returnsInHanded_of_row (C := Tryz.checked) (s := Rows.OpenSpec.upto Rows.spillDecodingSpec) own started (by kernel_rfl) Tryz.func4
  (witness_row_atRef (enc := enc) (C := Tryz.checked) false (World.laidAll Tryz.prog os Rows.spillDecodingUptoRow.laid) #[.slice none 0 0] (World.laidAll_os _ _ _) (by kernel_rfl) (by kernel_rfl) (by kernel_rfl)
   (OpenSpec.preRow_of_cond 8 hx (by kernel_rfl) (fun k hk => by cases hk; kernel_rfl) (by kernel_rfl) (zEQ os))) ?_
 intro W base args ds gs before hval hW _ hcond _ hL hS _
 exact zz9 H enc W base args ds gs before hval hW (hcond _ rfl) hL hS
end Go.Proofs.YtaadpbhondmahaaGreatDoor.spillDecoding
