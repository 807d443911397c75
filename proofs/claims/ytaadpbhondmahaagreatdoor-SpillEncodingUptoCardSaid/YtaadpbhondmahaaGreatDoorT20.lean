/- Part of a proof. -/
import Derived.Test.YtaadpbhondmahaaGreatDoorCards
import Derived.Test.YtaadpbhondmahaaGreatDoorTie
import Derived.WalkKit
import Derived.ProofKit
import Derived.OpenShut
import Derived.Deep.DeepHandedRow
import Derived.Deep.DeepWitnessRowRef
import Derived.Lib.LaidTab
import Derived.LaidSub
import Derived.MakeChecks
import Derived.Lay
import Derived.Carry
import Derived.ChangeMaps5
import Derived.Test.YtaadpbhondmahaaGreatDoorT11
import Derived.Test.YtaadpbhondmahaaGreatDoorT19
set_option linter.all false
set_option maxRecDepth 100000
set_option maxHeartbeats 1000000
namespace Go.Proofs.Tryz
open Go Go.Ev Go.RowKit
theorem law_spillEncoding {W : World} (hW : Held W) {a : zfV} {b : Sl Int} (h : okE a b) {vals : Array Value} (ι : Ev.Loc) (hargs : zgH (zuS W) W ι (zph []) vals.toList [.agg (zhd a), dSl (cI .u8) b]) :
 Calls prog 3 vals W fun e w' => e = .returned (.bool true) /\ Below W.heap.size W w' := by
 obtain ⟨N, hN⟩ := zsY a b h
 refine (zMY (C := cfg) zPJ mixed rfl (zMC W) (zMf hW) (zGz fun _ => rfl) zPT (hN N (yP _)) (zRp W) ι hargs).mono fun e w' he => ?_
 obtain ⟨he, hk, hs, hb⟩ := he
 exact ⟨he, hk.os, hk.tape, hk.output, hs, hb⟩
def z1o : zzx prog where
 i64 := 2
 int := 3
 str := 9
 ann := 24
 term := 74
 row := 94
 factors := 72
 factor := 100
 atom := 98
 anns := 95
 items := 96
 item := 146
 val := 40
 fi64 := underlying2
 fint := underlying3
 fstr := underlying9
 fann := underlying24
 ffactors := underlying72
 fanns := underlying95
 fitems := underlying96
 fterm := ⟨_, underlying74, by kernel_rfl, by kernel_rfl⟩
 ffactor := ⟨_, underlying100, by kernel_rfl, by kernel_rfl⟩
 fatom := ⟨_, underlying98, by kernel_rfl, by kernel_rfl⟩
 frow := ⟨_, underlying94, by kernel_rfl, by kernel_rfl⟩
 fitem := ⟨_, underlying146, by kernel_rfl, by kernel_rfl⟩
 fval := ⟨_, underlying40, by kernel_rfl, by kernel_rfl⟩
 c1 := by kernel_rfl
 c2 := by kernel_rfl
 c3 := by kernel_rfl
 c4 := by kernel_rfl
 c5 := by kernel_rfl
 c6 := by kernel_rfl
 c7 := by kernel_rfl
 c8 := by kernel_rfl
 c9 := by kernel_rfl
 c10 := by kernel_rfl
 c11 := by kernel_rfl
 c12 := by kernel_rfl
 c13 := by kernel_rfl
theorem zGq {t n : Nat} (h : prog.cellsOf t = n + 1) : 0 < prog.cellsOf t := by omega
theorem zJT {H : Type} {enc : TypeId × Value -> H} {w : World} {held : Bool} (fuel : Nat) : zmH enc prog w held fuel 22 (cSl zd0) (fun s d => (∀ v ∈ s.l, zlH v) /\ zoc s.l + 1 <= zgc d) := by
 cases fuel with
 | zero => exact zd8
 | succ fuel => exact (zlc underlying22 (zGq (n := 2) (by kernel_rfl)) (fun x => (zzj x).trans (by kernel_rfl)) (zFh z1o fuel)).mono fun s d h => ztf (W := zlH) (f := fun v => v.text.length + 1) h
theorem reads_drow {H : Type} {enc : TypeId × Value -> H} {w : World} {held : Bool} (fuel : Nat) : zmH enc prog w held fuel 26 zhd (fun x d => (∀ v ∈ x.values.l, zlH v) /\ zbB x.ann.l /\ zoc x.values.l + zak x.ann.l + 2 <= zgc d) := by
 cases fuel with
 | zero => exact zd8
 | succ fuel =>
   intro cs d ps h
   have r1 := (zJT (enc := enc) (w := w) (held := held) fuel).toD (fun x => by show 1 = prog.cellsOf 22; kernel_rfl)
   have r2 := ((zHr (enc := enc) (w := w) (held := held) z1o fuel).2.1).toD (fun x => by show 1 = prog.cellsOf 24; kernel_rfl)
   obtain ⟨dss, ds, hc, rfl, hF0⟩ := zio (t := 26) (ts := [22, 24]) ⟨_, underlying26, by kernel_rfl, by kernel_rfl⟩ (Rs := [_, _]) ⟨r1, r2, trivial⟩ cs d ps h
   obtain ⟨_, _, d1, _, rfl, rfl, ⟨x1, rfl, a1, b1⟩, hF1⟩ := zbY hF0
   obtain ⟨_, _, d2, _, rfl, rfl, ⟨x2, rfl, b2⟩, hF2⟩ := zbY hF1
   obtain ⟨rfl, rfl⟩ := zjW hF2
   refine ⟨⟨x1, x2⟩, hc, a1, b2.1, ?_⟩
   have := b2.2
   simp only [zgc, zwe]; omega
theorem reads_bytes {H : Type} {enc : TypeId × Value -> H} {w : World} {held : Bool} (fuel : Nat) : zmH enc prog w held fuel 27 (cSl (cI .u8)) (fun s d => (∀ x ∈ s.l, (Lit.int .u8 x).wf = true) /\ s.l.length + 1 <= zgc d) := by
 cases fuel with
 | zero => exact zd8
 | succ fuel =>
   refine (zlc underlying27 (zGq (n := 0) (by kernel_rfl)) (fun x => by show 1 = prog.cellsOf 5; kernel_rfl) ((zpt underlying5 fuel).mono (Q' := fun x y => (Lit.int .u8 x).wf = true /\ 1 <= zgc y) fun x d h => ⟨h.2, zJq d⟩)).mono fun s d h => ?_
   have h1 := ztf (W := fun x => (Lit.int .u8 x).wf = true) (f := fun _ => 1) h
   have h2 : ∀ l : List Int, zgf (fun _ => 1) l = l.length := fun l => by
    induction l with
    | nil => rfl
    | cons x l ih => simp only [zgf, yC, ih]; omega
   rw [h2] at h1; exact h1
theorem wf_u8 {n : Int} (h : (Lit.int .u8 n).wf = true) : 0 <= n /\ n < 256 := by
 simp only [Lit.wf, yK, YG] at h
 have h1 : IntKind.u8.min = 0 := rfl
 have h2 : IntKind.u8.max = 255 := rfl
 rw [h1, h2] at h
 omega
theorem repE_agg {W : World} {ι : Ev.Loc} {cs : Array Value} {ds : List D} (h : zjD W cs.toList ds) : Rep (zuS W) W ι (zph []) (.agg cs) (.agg ds) :=
 .agg cs ds (by simpa using h.1) (fun i v d hv hd => .ext _ _ (h.2.1 i v d (by simpa using hv) hd)) h.2.2
theorem err_cell {W : World} {name nm : String} {d : DataW Unit} {g : Nat} (hg : prog.globalNamed name = some g) (hty : (prog.globals[g]?).map (·.type) = some 187) (h : laidMet prog [(name, .iface nm d)] W) : ∃ v, W.cell? ⟨g, 0, none⟩ = some v /\ (v = .nilIface ∨ ∃ te pe, v = .iface te pe) := by
 obtain ⟨ps, ⟨g', t', cs, fuel, p, q, hg', ht', hvar, hd, _, _⟩, _⟩ := h
 obtain rfl := yO (hg.symm.trans hg')
 obtain rfl := yO (hty.symm.trans ht')
 obtain ⟨f, u, v, hcs, _, _⟩ := iface_of_trod underlying187 hd
 refine ⟨.iface u v, ?_, .inr ⟨u, v, rfl⟩⟩
 rw [World.var?_cell hg hvar 0, <- Array.getElem?_toList, hcs]; rfl
theorem one_of {W : World} {l : List (String × DataW Unit)} {n : String} {d : DataW Unit} (h : laidMetH prog l W) (e : l.filter (fun x => x.1 == n) = [(n, d)]) (hn : d.handleName?.isNone = true) : laidMet prog [(n, d)] W := by
 have h1 := h.filter (fun x => x.1 == n)
 rw [e, MakeChecks.laidMetH_plain _ _ _ (by simp [hn])] at h1
 exact h1
end Go.Proofs.Tryz
namespace Go.Proofs.YtaadpbhondmahaaGreatDoor.spillEncoding
open Go.ChangeShapes Go.WideShapes Go.ChangeAt Go.RowKit Go.Ev
theorem own : ownKnob Tryz.prog.godebug = none := by kernel_rfl
theorem zMA : laidOutB Tryz.prog = true := by kernel_rfl
theorem zQN {W : World} (hL : laidMetH Tryz.prog Rows.spillEncodingUptoRow.laid W) (hS : W.ShapedOpen Tryz.prog) : Tryz.Held W where
 pow := Lib.tabIs_of_head (rest := []) (g := 1) (t := 234) (e := 104) (n := 20) (by kernel_rfl) (by kernel_rfl) Tryz.underlying234 Tryz.underlying104 (by kernel_rfl) (by kernel_rfl) (Tryz.one_of hL (by kernel_rfl) (by kernel_rfl))
 maxLen := by
  obtain ⟨m, hm⟩ := Go.Proofs.cell_of_shapedOpen_int (g := 0) (zero := #[.int .i64 0]) (t := 3) hS (YF (by kernel_rfl)) (by kernel_rfl) rfl (by kernel_rfl) (by kernel_rfl) Tryz.underlying3
  exact ⟨0, m, by kernel_rfl, hm⟩
 synt := by
  obtain ⟨v, h1, h2⟩ := Tryz.err_cell (g := 4) (name := "strconv.ErrSyntax") (by kernel_rfl) (by kernel_rfl) (Tryz.one_of hL (d := Rows.laid_strconv_ErrSyntax) (by kernel_rfl) (by kernel_rfl))
  exact ⟨4, v, by kernel_rfl, h1, h2⟩
 range := by
  obtain ⟨v, h1, h2⟩ := Tryz.err_cell (g := 5) (name := "strconv.ErrRange") (by kernel_rfl) (by kernel_rfl) (Tryz.one_of hL (d := Rows.laid_strconv_ErrRange) (by kernel_rfl) (by kernel_rfl))
  exact ⟨5, v, by kernel_rfl, h1, h2⟩
mutual
theorem zoS {H : Type} : ∀ (d : DataW H), zgc d <= Rows.uptoBulk d
 | .lit (.string bytes) => yP _
 | .lit (.bool _) => yP _
 | .lit (.int _ _) => yP _
 | .lit (.float _ _) => yP _
 | .lit .nil => yP _
 | .nil => yP _
 | .ptr d => by have := zoS d; simp only [zgc, Rows.uptoBulk]; omega
 | .slice e s => by have := zzv e; have := zzv s; simp only [zgc, Rows.uptoBulk]; omega
 | .agg p => by have := zzv p; simp only [zgc, Rows.uptoBulk]; omega
 | .iface _ d => by have := zoS d; simp only [zgc, Rows.uptoBulk]; omega
 | .map e => by have := zJr e; simp only [zgc, Rows.uptoBulk]; omega
 | .held _ => yP _
theorem zzv {H : Type} : ∀ (l : List (DataW H)), zwe l <= Rows.uptoBulkAll l
 | [] => yP _
 | d :: r => by have := zoS d; have := zzv r; simp only [zwe, Rows.uptoBulkAll]; omega
theorem zJr {H : Type} : ∀ (l : List (Lit × DataW H)), zPn l <= Rows.uptoBulkEntries l
 | [] => yP _
 | x :: r => by have := zPm x; have := zJr r; simp only [zPn, Rows.uptoBulkEntries]; omega
theorem zPm {H : Type} : ∀ (x : Lit × DataW H), zIe x <= Rows.uptoBulkEntry x
 | (.string _, d) => by have := zoS d; simp only [zIe, Rows.uptoBulkEntry]; omega
 | (.bool _, d) => by have := zoS d; simp only [zIe, Rows.uptoBulkEntry]; omega
 | (.int _ _, d) => by have := zoS d; simp only [zIe, Rows.uptoBulkEntry]; omega
 | (.float _ _, d) => by have := zoS d; simp only [zIe, Rows.uptoBulkEntry]; omega
 | (.nil, d) => by have := zoS d; simp only [zIe, Rows.uptoBulkEntry]; omega
end
theorem zJm (H : Type) (enc : TypeId × Value -> H) (W : World) (base : Nat) (args : Array Value) (ds gs : List (DataW H)) (before : List MemPlace)
 (hval : ∀ (j : Nat) t v, Tryz.f3.params[j]? = some t -> args[j]? = some v -> Value.okWide Tryz.prog W .any base t v)
 (hW : DataW.Whole enc Tryz.prog Tryz.f3.params.toList Rows.spillEncodingSpec.vars false W args.toList ds gs before) (hcond : Rows.uptoSmall H (ds ++ gs) = true)
 (hL : laidMetH Tryz.prog Rows.spillEncodingUptoRow.laid W) (hS : W.ShapedOpen Tryz.prog) :
 Calls Tryz.prog 3 args W fun e W' => ∃ v, e = .returned v /\ Rows.spillEncodingSpec.post enc Tryz.prog Tryz.f3 false true false false W args v W' := by
 have hW' := hW
 obtain ⟨p, q, hA0, hV, rfl, hfz, hnd⟩ := hW
 have hA : DataW.TrodAll enc Tryz.prog W 0 (fun _ => true) true Tryz.f3.params.toList args.toList ds p := hA0
 rw [Tryz.params3] at hA hval
 obtain ⟨v0, r0, d0, e0, p0, q0, ha, rfl, rfl, h0, hA⟩ := trodAll_cons hA
 obtain ⟨v1, r1, d1, e1, p1, q1, rfl, rfl, rfl, h1, hA⟩ := trodAll_cons hA
 obtain ⟨rfl, rfl, rfl⟩ := trodAll_nil hA
 have ha : args = #[v0, v1] := by cases args; simp_all
 subst ha
 obtain ⟨rfl, rfl⟩ := trodVars_none hV
 clear hA0 hA
 simp only [List.append_nil] at hW'
 have hlt : ∀ x ∈ p0 ++ (p1), x.block < W.heap.size := fun x hx => by simpa using hW'.lt x hx
 have k0 := h0
 have k1 := h1
 obtain ⟨c0, rfl, _⟩ := okWide_struct Tryz.underlying26 (hval 0 26 v0 rfl rfl)
 obtain ⟨a1, len1, cap1, rfl⟩ := okWide_slice Tryz.underlying27 (hval 1 27 v1 rfl rfl)
 obtain ⟨f0, hf0⟩ := h0
 obtain ⟨f1, hf1⟩ := h1
 obtain ⟨a, hc0, b0⟩ := Tryz.reads_drow f0 _ d0 p0 hf0
 obtain ⟨b, hc1, b1⟩ := Tryz.reads_bytes f1 _ d1 p1 hf1
 have hb : zgc d0 <= 1048576 /\ zgc d1 <= 1048576 := by
  have hh := YF hcond
  have g0 := zoS d0
  have g1 := zoS d1
  simp only [yS, yZ, Rows.uptoBulkAll] at hh
  omega
 have hok : okE a b := ⟨by omega, by omega, b0.2.1, b0.1, by omega, fun x hx => Tryz.wf_u8 (b1.1 x hx)⟩
 have hr1 : zlA (zuS W) W (.slice a1 len1 cap1) (dSl (cI .u8) b) := hc1.2.1 0 _ _ rfl rfl
 refine (Tryz.law_spillEncoding (zQN hL hS) hok (fun _ => (0, 0)) (zgH.cons (Tryz.repE_agg hc0) (zgH.cons (.ext _ _ hr1) zgH.nil))).mono fun e W' he => ?_
 obtain ⟨rfl, hbelow⟩ := he
 refine ⟨_, rfl, _, _, _, [], _, [], hW', ?_, (trodAll_cons_mk (Below.trod zMA (by kernel_rfl) (YF (by kernel_rfl)) k0 hbelow (fun x hx => hlt x (by simp [hx]))) (trodAll_cons_mk (Below.trod zMA (by kernel_rfl) (YF (by kernel_rfl)) k1 hbelow (fun x hx => hlt x (by simp [hx]))) trodAll_mk0)), rfl, hbelow.frame _, fun h => by cases h⟩
 exact trodAll_mk1 (shut_bool Tryz.underlying4 _)
theorem zOT (os : Os) : laidMetH Tryz.prog Rows.spillEncodingUptoRow.laid ((World.laidAll Tryz.prog os Rows.spillEncodingUptoRow.laid).forCall (fun _ _ => 0) ⟨#[], #[.agg #[.slice none 0 0, .slice none 0 0], .slice none 0 0], []⟩).memory := by
 rw [MakeChecks.laidMetH_plain _ _ _ (by kernel_rfl)]
 exact laidMet_laidAll _ (by kernel_rfl) (by kernel_rfl)
theorem zzY (os : Os) {H : Type} (enc : TypeId × Value -> H) : ∃ places, DataW.whole enc Tryz.prog ((World.laidAll Tryz.prog os Rows.spillEncodingUptoRow.laid).forCall (fun _ _ => 0) ⟨#[], #[.agg #[.slice none 0 0, .slice none 0 0], .slice none 0 0], []⟩).memory Tryz.f3.params.toList Rows.spillEncodingSpec.vars false (#[.agg #[.slice none 0 0, .slice none 0 0], .slice none 0 0] : Array Value).toList 8 = some ([.agg [.nil, .nil], .nil], [], places) :=
 ⟨[], by kernel_rfl⟩
theorem zKk (os : Os) (started : os.Started) (H : Type) (enc : TypeId × Value -> H) (F : Stop.Interp) :
 ReturnsInHanded {} Tryz.checked os 3 .any ((Rows.OpenSpec.upto Rows.spillEncodingSpec).preRow enc Tryz.prog Tryz.f3 Rows.spillEncodingUptoRow.domain false Rows.spillEncodingUptoRow.laid) (((Rows.OpenSpec.upto Rows.spillEncodingSpec).at F).post enc Tryz.prog Tryz.f3 false true false false) := by
 obtain ⟨places, hx⟩ := zzY os enc
 refine returnsInHanded_of_row (C := Tryz.checked) (s := Rows.OpenSpec.upto Rows.spillEncodingSpec) own started (by kernel_rfl) Tryz.func3
  (witness_row_atRef (enc := enc) (C := Tryz.checked) false (World.laidAll Tryz.prog os Rows.spillEncodingUptoRow.laid) #[.agg #[.slice none 0 0, .slice none 0 0], .slice none 0 0] (World.laidAll_os _ _ _) (by kernel_rfl) (by kernel_rfl) (by kernel_rfl)
   (OpenSpec.preRow_of_cond 8 hx (by kernel_rfl) (fun k hk => by cases hk; kernel_rfl) (by kernel_rfl) (zOT os))) ?_
 intro W base args ds gs before hval hW _ hcond _ hL hS _
 exact zJm H enc W base args ds gs before hval hW (hcond _ rfl) hL hS
end Go.Proofs.YtaadpbhondmahaaGreatDoor.spillEncoding
namespace Go.Proofs.YtaadpbhondmahaaGreatDoor.spillDecoding
open Go.ChangeShapes Go.WideShapes Go.ChangeAt Go.RowKit Go.Ev
theorem own : ownKnob Tryz.prog.godebug = none := by kernel_rfl
theorem zzY (os : Os) {H : Type} (enc : TypeId × Value -> H) : ∃ places, DataW.whole enc Tryz.prog ((World.laidAll Tryz.prog os Rows.spillDecodingUptoRow.laid).forCall (fun _ _ => 0) ⟨#[], #[.slice none 0 0], []⟩).memory Tryz.f4.params.toList Rows.spillDecodingSpec.vars false (#[.slice none 0 0] : Array Value).toList 8 = some ([.nil], [], places) :=
 ⟨[], by kernel_rfl⟩
end Go.Proofs.YtaadpbhondmahaaGreatDoor.spillDecoding
