/- HashjoinBucket: for all rows, key columns, numbers of parts and levels that hold together at most 1048576 values and letters, the law returns true. Condition: that bound (the Upto form). -/
import Derived.Test.YtklniminnejicaaGreatDoorCards
import Derived.Test.YtklniminnejicaaGreatDoorTie
import Derived.WalkKit
import Derived.ProofKit
import Derived.OpenShut
import Derived.Deep.DeepHandedRow
import Derived.Deep.DeepWitnessRowRef
import Derived.Lib.LaidTab
import Derived.LaidSub
import Derived.MakeChecks
import Derived.Lay
import Derived.Carry
import Derived.ChangeMaps5
import Derived.Test.YtklniminnejicaaGreatDoorT15
set_option linter.all false
set_option maxRecDepth 100000
namespace Go.Proofs.Tryz
open Go Go.Ev Go.RowKit
theorem law_calls {W : World} (hW : Held W) {a b : zaK} {c : Sl Int} {d e : Int} (h : zpm a b c d e) {vals : Array Value} (ι : Ev.Loc) (hargs : zbS (zfR W) W ι (zgB []) vals.toList [.agg (za4 a), .agg (za4 b), dSl (cI .i64) c, .int .i64 d, .int .i64 e]) :
 Calls prog 3 vals W fun e w' => e = .returned (.bool true) ∧ Below W.heap.size W w' := by
 obtain ⟨N, hN⟩ := zfx a b c d e h
 refine (zsr (C := cfg) zuN mixed rfl (zsd W) (zr2 hW) zuU (hN N (Nat.le_refl _)) (zv1 W) ι hargs).mono fun e w' he => ?_
 obtain ⟨he, hk, hs, hb⟩ := he
 exact ⟨he, hk.os, hk.tape, hk.output, hs, hb⟩
def zz5 : zi1 prog where
 i64 := 2
 int := 3
 str := 9
 ann := 24
 term := 76
 row := 41
 factors := 74
 factor := 79
 atom := 64
 anns := 61
 items := 62
 item := 143
 val := 37
 fi64 := underlying2
 fint := underlying3
 fstr := underlying9
 fann := underlying24
 ffactors := underlying74
 fanns := underlying61
 fitems := underlying62
 fterm := ⟨_, underlying76, by kernel_rfl, by kernel_rfl⟩
 ffactor := ⟨_, underlying79, by kernel_rfl, by kernel_rfl⟩
 fatom := ⟨_, underlying64, by kernel_rfl, by kernel_rfl⟩
 frow := ⟨_, underlying41, by kernel_rfl, by kernel_rfl⟩
 fitem := ⟨_, underlying143, by kernel_rfl, by kernel_rfl⟩
 fval := ⟨_, underlying37, by kernel_rfl, by kernel_rfl⟩
 c1 := by kernel_rfl
 c2 := by kernel_rfl
 c3 := by kernel_rfl
 c4 := by kernel_rfl
 c5 := by kernel_rfl
 c6 := by kernel_rfl
 c7 := by kernel_rfl
 c8 := by kernel_rfl
 c9 := by kernel_rfl
 c10 := by kernel_rfl
 c11 := by kernel_rfl
 c12 := by kernel_rfl
 c13 := by kernel_rfl
theorem zne {t n : Nat} (h : prog.cellsOf t = n + 1) : 0 < prog.cellsOf t := by omega
theorem zqh {H : Type} {enc : TypeId × Value → H} {w : World} {held : Bool} (fuel : Nat) : zdU enc prog w held fuel 22 (cSl zbv) (fun s d => zbd s.l + 1 ≤ zbD d) := by
 cases fuel with
 | zero => exact zbf
 | succ fuel => exact (zdm underlying22 (zne (n := 2) (by kernel_rfl)) (fun x => (zem x).trans (by kernel_rfl)) (zmu zz5 fuel)).mono fun s d h => (zgc (W := zp3) (f := fun v => v.text.length + 1) h).2
theorem reads_drow {H : Type} {enc : TypeId × Value → H} {w : World} {held : Bool} (fuel : Nat) : zdU enc prog w held fuel 26 za4 (fun x d => zbd x.values.l + zat x.ann.l + 2 ≤ zbD d) := by
 cases fuel with
 | zero => exact zbf
 | succ fuel =>
   intro cs d ps h
   have r1 := (zqh (enc := enc) (w := w) (held := held) fuel).toD (fun x => by show 1 = prog.cellsOf 22; kernel_rfl)
   have r2 := ((zn6 (enc := enc) (w := w) (held := held) zz5 fuel).2.1).toD (fun x => by show 1 = prog.cellsOf 24; kernel_rfl)
   obtain ⟨dss, ds, hc, rfl, hF0⟩ := zcj (t := 26) (ts := [22, 24]) ⟨_, underlying26, by kernel_rfl, by kernel_rfl⟩ (Rs := [_, _]) ⟨r1, r2, trivial⟩ cs d ps h
   obtain ⟨_, _, d1, _, rfl, rfl, ⟨x1, rfl, b1⟩, hF1⟩ := zaF hF0
   obtain ⟨_, _, d2, _, rfl, rfl, ⟨x2, rfl, b2⟩, hF2⟩ := zaF hF1
   obtain ⟨rfl, rfl⟩ := zcR hF2
   refine ⟨⟨x1, x2⟩, hc, ?_⟩
   have := b2.2
   simp only [zbD, zhv]; omega
theorem reads_keys {H : Type} {enc : TypeId × Value → H} {w : World} {held : Bool} (fuel : Nat) : zdU enc prog w held fuel 27 (cSl (cI .i64)) (fun s d => s.l.length + 1 ≤ zbD d) := by
 cases fuel with
 | zero => exact zbf
 | succ fuel =>
   refine (zdm underlying27 (zne (n := 0) (by kernel_rfl)) (fun x => by show 1 = prog.cellsOf 3; kernel_rfl) ((zdv underlying3 fuel).mono (Q' := fun _ y => True ∧ 1 ≤ zbD y) fun x d h => ⟨trivial, zpW d⟩)).mono fun s d h => ?_
   have h1 := (zgc (W := fun _ => True) (f := fun _ => 1) h).2
   have h2 : ∀ l : List Int, zgq (fun _ => 1) l = l.length := fun l => by
    induction l with
    | nil => rfl
    | cons x l ih => simp only [zgq, List.length_cons, ih]; omega
   rw [h2] at h1; exact h1
theorem repE_agg {W : World} {ι : Ev.Loc} {cs : Array Value} {ds : List D} (h : zcI W cs.toList ds) : Rep (zfR W) W ι (zgB []) (.agg cs) (.agg ds) :=
 .agg cs ds (by simpa using h.1) (fun i v d hv hd => .ext _ _ (h.2.1 i v d (by simpa using hv) hd)) h.2.2
theorem err_cell {W : World} {name nm : String} {d : DataW Unit} {g : Nat} (hg : prog.globalNamed name = some g) (hty : (prog.globals[g]?).map (·.type) = some 254) (h : laidMet prog [(name, .iface nm d)] W) : ∃ v, W.cell? ⟨g, 0, none⟩ = some v ∧ (v = .nilIface ∨ ∃ te pe, v = .iface te pe) := by
 obtain ⟨ps, ⟨g', t', cs, fuel, p, q, hg', ht', hvar, hd, _, _⟩, _⟩ := h
 obtain rfl := Option.some.inj (hg.symm.trans hg')
 obtain rfl := Option.some.inj (hty.symm.trans ht')
 obtain ⟨f, u, v, hcs, _, _⟩ := iface_of_trod underlying254 hd
 refine ⟨.iface u v, ?_, .inr ⟨u, v, rfl⟩⟩
 rw [World.var?_cell hg hvar 0, ← Array.getElem?_toList, hcs]; rfl
theorem one_of {W : World} {l : List (String × DataW Unit)} {n : String} {d : DataW Unit} (h : laidMetH prog l W) (e : l.filter (fun x => x.1 == n) = [(n, d)]) (hn : d.handleName?.isNone = true) : laidMet prog [(n, d)] W := by
 have h1 := h.filter (fun x => x.1 == n)
 rw [e, MakeChecks.laidMetH_plain _ _ _ (by simp [hn])] at h1
 exact h1
end Go.Proofs.Tryz
namespace Go.Proofs.YtklniminnejicaaGreatDoor.hashjoinBucket
open Go.ChangeShapes Go.WideShapes Go.ChangeAt Go.RowKit Go.Ev
theorem own : ownKnob Tryz.prog.godebug = none := by kernel_rfl
theorem zjn : laidOutB Tryz.prog = true := by kernel_rfl
theorem zvy {W : World} (hL : laidMetH Tryz.prog Rows.hashjoinBucketUptoRow.laid W) (hS : W.ShapedOpen Tryz.prog) : Tryz.Held W where
 pow := Lib.tabIs_of_head (rest := []) (g := 1) (t := 319) (e := 56) (n := 20) (by kernel_rfl) (by kernel_rfl) Tryz.underlying319 Tryz.underlying56 (by kernel_rfl) (by kernel_rfl) (Tryz.one_of hL (by kernel_rfl) (by kernel_rfl))
 maxLen := by
  obtain ⟨m, hm⟩ := Go.Proofs.cell_of_shapedOpen_int (g := 0) (zero := #[.int .i64 0]) (t := 3) hS (of_decide_eq_true (by kernel_rfl)) (by kernel_rfl) rfl (by kernel_rfl) (by kernel_rfl) Tryz.underlying3
  exact ⟨0, m, by kernel_rfl, hm⟩
 synt := by
  obtain ⟨v, h1, h2⟩ := Tryz.err_cell (g := 2) (name := "strconv.ErrSyntax") (by kernel_rfl) (by kernel_rfl) (Tryz.one_of hL (d := Rows.laid_strconv_ErrSyntax) (by kernel_rfl) (by kernel_rfl))
  exact ⟨2, v, by kernel_rfl, h1, h2⟩
 range := by
  obtain ⟨v, h1, h2⟩ := Tryz.err_cell (g := 3) (name := "strconv.ErrRange") (by kernel_rfl) (by kernel_rfl) (Tryz.one_of hL (d := Rows.laid_strconv_ErrRange) (by kernel_rfl) (by kernel_rfl))
  exact ⟨3, v, by kernel_rfl, h1, h2⟩
mutual
theorem zee {H : Type} : ∀ (d : DataW H), zbD d ≤ Rows.uptoBulk d
 | .lit (.string bytes) => Nat.le_refl _
 | .lit (.bool _) => Nat.le_refl _
 | .lit (.int _ _) => Nat.le_refl _
 | .lit (.float _ _) => Nat.le_refl _
 | .lit .nil => Nat.le_refl _
 | .nil => Nat.le_refl _
 | .ptr d => by have := zee d; simp only [zbD, Rows.uptoBulk]; omega
 | .slice e s => by have := zi0 e; have := zi0 s; simp only [zbD, Rows.uptoBulk]; omega
 | .agg p => by have := zi0 p; simp only [zbD, Rows.uptoBulk]; omega
 | .iface _ d => by have := zee d; simp only [zbD, Rows.uptoBulk]; omega
 | .map e => by have := zpX e; simp only [zbD, Rows.uptoBulk]; omega
 | .held _ => Nat.le_refl _
theorem zi0 {H : Type} : ∀ (l : List (DataW H)), zhv l ≤ Rows.uptoBulkAll l
 | [] => Nat.le_refl _
 | d :: r => by have := zee d; have := zi0 r; simp only [zhv, Rows.uptoBulkAll]; omega
theorem zpX {H : Type} : ∀ (l : List (Lit × DataW H)), zuv l ≤ Rows.uptoBulkEntries l
 | [] => Nat.le_refl _
 | x :: r => by have := zuu x; have := zpX r; simp only [zuv, Rows.uptoBulkEntries]; omega
theorem zuu {H : Type} : ∀ (x : Lit × DataW H), zoQ x ≤ Rows.uptoBulkEntry x
 | (.string _, d) => by have := zee d; simp only [zoQ, Rows.uptoBulkEntry]; omega
 | (.bool _, d) => by have := zee d; simp only [zoQ, Rows.uptoBulkEntry]; omega
 | (.int _ _, d) => by have := zee d; simp only [zoQ, Rows.uptoBulkEntry]; omega
 | (.float _ _, d) => by have := zee d; simp only [zoQ, Rows.uptoBulkEntry]; omega
 | (.nil, d) => by have := zee d; simp only [zoQ, Rows.uptoBulkEntry]; omega
end
theorem zpR (H : Type) (enc : TypeId × Value → H) (W : World) (base : Nat) (args : Array Value) (ds gs : List (DataW H)) (before : List MemPlace)
 (hval : ∀ (j : Nat) t v, Tryz.f3.params[j]? = some t → args[j]? = some v → Value.okWide Tryz.prog W .any base t v)
 (hW : DataW.Whole enc Tryz.prog Tryz.f3.params.toList Rows.hashjoinBucketSpec.vars false W args.toList ds gs before) (hcond : Rows.uptoSmall H (ds ++ gs) = true)
 (hL : laidMetH Tryz.prog Rows.hashjoinBucketUptoRow.laid W) (hS : W.ShapedOpen Tryz.prog) :
 Calls Tryz.prog 3 args W fun e W' => ∃ v, e = .returned v ∧ Rows.hashjoinBucketSpec.post enc Tryz.prog Tryz.f3 false true false false W args v W' := by
 have hW' := hW
 obtain ⟨p, q, hA0, hV, rfl, hfz, hnd⟩ := hW
 have hA : DataW.TrodAll enc Tryz.prog W 0 (fun _ => true) true Tryz.f3.params.toList args.toList ds p := hA0
 rw [Tryz.params3] at hA hval
 obtain ⟨v0, r0, d0, e0, p0, q0, ha, rfl, rfl, h0, hA⟩ := trodAll_cons hA
 obtain ⟨v1, r1, d1, e1, p1, q1, rfl, rfl, rfl, h1, hA⟩ := trodAll_cons hA
 obtain ⟨v2, r2, d2, e2, p2, q2, rfl, rfl, rfl, h2, hA⟩ := trodAll_cons hA
 obtain ⟨v3, r3, d3, e3, p3, q3, rfl, rfl, rfl, h3, hA⟩ := trodAll_cons hA
 obtain ⟨v4, r4, d4, e4, p4, q4, rfl, rfl, rfl, h4, hA⟩ := trodAll_cons hA
 obtain ⟨rfl, rfl, rfl⟩ := trodAll_nil hA
 have ha : args = #[v0, v1, v2, v3, v4] := by cases args; simp_all
 subst ha
 obtain ⟨rfl, rfl⟩ := trodVars_none hV
 clear hA0 hA
 simp only [List.append_nil] at hW'
 have hlt : ∀ x ∈ p0 ++ (p1 ++ (p2 ++ (p3 ++ p4))), x.block < W.heap.size := fun x hx => by simpa using hW'.lt x hx
 have k0 := h0
 have k1 := h1
 have k2 := h2
 have k3 := h3
 have k4 := h4
 obtain ⟨c0, rfl, _⟩ := okWide_struct Tryz.underlying26 (hval 0 26 v0 rfl rfl)
 obtain ⟨c1, rfl, _⟩ := okWide_struct Tryz.underlying26 (hval 1 26 v1 rfl rfl)
 obtain ⟨a2, len2, cap2, rfl⟩ := okWide_slice Tryz.underlying27 (hval 2 27 v2 rfl rfl)
 obtain ⟨n3, rfl⟩ := okWide_int Tryz.underlying3 (hval 3 3 v3 rfl rfl)
 obtain ⟨n4, rfl⟩ := okWide_int Tryz.underlying3 (hval 4 3 v4 rfl rfl)
 obtain ⟨f0, hf0⟩ := h0
 obtain ⟨f1, hf1⟩ := h1
 obtain ⟨f2, hf2⟩ := h2
 obtain ⟨f3, hf3⟩ := h3
 obtain ⟨f4, hf4⟩ := h4
 obtain ⟨a, hc0, b0⟩ := Tryz.reads_drow f0 _ d0 p0 hf0
 obtain ⟨b, hc1, b1⟩ := Tryz.reads_drow f1 _ d1 p1 hf1
 obtain ⟨c, hc2, b2⟩ := Tryz.reads_keys f2 _ d2 p2 hf2
 obtain ⟨x3, hc3, _, w3⟩ := zdv Tryz.underlying3 f3 _ d3 p3 hf3
 obtain ⟨x4, hc4, _, w4⟩ := zdv Tryz.underlying3 f4 _ d4 p4 hf4
 have hb : zbD d0 ≤ 1048576 ∧ zbD d1 ≤ 1048576 ∧ zbD d2 ≤ 1048576 := by
  have hh := of_decide_eq_true hcond
  have g0 := zee d0
  have g1 := zee d1
  have g2 := zee d2
  simp only [List.cons_append, List.nil_append, Rows.uptoBulkAll] at hh
  omega
 have hlim := zcV
 have hok : zpm a b c x3 x4 := ⟨⟨by omega, by omega⟩, ⟨by omega, by omega⟩, by omega, zfA w3, zfA w4⟩
 have hr2 : zdt (zfR W) W (.slice a2 len2 cap2) (dSl (cI .i64) c) := hc2.2.1 0 _ _ rfl rfl
 have hr3 : zdt (zfR W) W (.int .i64 n3) (.int .i64 x3) := hc3.2.1 0 _ _ rfl rfl
 have hr4 : zdt (zfR W) W (.int .i64 n4) (.int .i64 x4) := hc4.2.1 0 _ _ rfl rfl
 refine (Tryz.law_calls (zvy hL hS) hok (fun _ => (0, 0)) (zbS.cons (Tryz.repE_agg hc0) (zbS.cons (Tryz.repE_agg hc1) (zbS.cons (.ext _ _ hr2) (zbS.cons (.ext _ _ hr3) (zbS.cons (.ext _ _ hr4) zbS.nil)))))).mono fun e W' he => ?_
 obtain ⟨rfl, hbelow⟩ := he
 have keep : ∀ {t : TypeId} {v : Value} {d : DataW H} {pp : List MemPlace}, (∀ x ∈ pp, x ∈ p0 ++ (p1 ++ (p2 ++ (p3 ++ p4)))) → ∀ x ∈ pp, x.block < W.heap.size := fun h x hx => hlt x (h x hx)
 refine ⟨_, rfl, _, _, _, [], _, [], hW', ?_, trodAll_cons_mk (Below.trod zjn (by kernel_rfl) (of_decide_eq_true (by kernel_rfl)) k0 hbelow (fun x hx => hlt x (by simp [hx])))
  (trodAll_cons_mk (Below.trod zjn (by kernel_rfl) (of_decide_eq_true (by kernel_rfl)) k1 hbelow (fun x hx => hlt x (by simp [hx])))
  (trodAll_cons_mk (Below.trod zjn (by kernel_rfl) (of_decide_eq_true (by kernel_rfl)) k2 hbelow (fun x hx => hlt x (by simp [hx])))
  (trodAll_cons_mk (Below.trod zjn (by kernel_rfl) (of_decide_eq_true (by kernel_rfl)) k3 hbelow (fun x hx => hlt x (by simp [hx])))
  (trodAll_cons_mk (Below.trod zjn (by kernel_rfl) (of_decide_eq_true (by kernel_rfl)) k4 hbelow (fun x hx => hlt x (by simp [hx]))) trodAll_mk0)))), rfl, hbelow.frame _, fun h => by cases h⟩
 exact trodAll_mk1 (shut_bool Tryz.underlying4 _)
theorem zt6 (os : Os) : laidMetH Tryz.prog Rows.hashjoinBucketUptoRow.laid ((World.laidAll Tryz.prog os Rows.hashjoinBucketUptoRow.laid).forCall (fun _ _ => 0) ⟨#[], #[.agg #[.slice none 0 0, .slice none 0 0], .agg #[.slice none 0 0, .slice none 0 0], .slice none 0 0, .int .i64 0, .int .i64 0], []⟩).memory := by
 rw [MakeChecks.laidMetH_plain _ _ _ (by kernel_rfl)]
 exact laidMet_laidAll _ (by kernel_rfl) (by kernel_rfl)
theorem zlh (os : Os) {H : Type} (enc : TypeId × Value → H) : ∃ places, DataW.whole enc Tryz.prog ((World.laidAll Tryz.prog os Rows.hashjoinBucketUptoRow.laid).forCall (fun _ _ => 0) ⟨#[], #[.agg #[.slice none 0 0, .slice none 0 0], .agg #[.slice none 0 0, .slice none 0 0], .slice none 0 0, .int .i64 0, .int .i64 0], []⟩).memory Tryz.f3.params.toList Rows.hashjoinBucketSpec.vars false #[Value.agg #[.slice none 0 0, .slice none 0 0], .agg #[.slice none 0 0, .slice none 0 0], .slice none 0 0, .int .i64 0, .int .i64 0].toList 8 = some ([.agg [.nil, .nil], .agg [.nil, .nil], .nil, .lit (.int .i64 0), .lit (.int .i64 0)], [], places) :=
 ⟨[], by kernel_rfl⟩
theorem zqw (os : Os) (started : os.Started) (H : Type) (enc : TypeId × Value → H) (F : Stop.Interp) :
 ReturnsInHanded {} Tryz.checked os 3 .any ((Rows.OpenSpec.upto Rows.hashjoinBucketSpec).preRow enc Tryz.prog Tryz.f3 Rows.hashjoinBucketUptoRow.domain false Rows.hashjoinBucketUptoRow.laid) (((Rows.OpenSpec.upto Rows.hashjoinBucketSpec).at F).post enc Tryz.prog Tryz.f3 false true false false) := by
 obtain ⟨places, hx⟩ := zlh os enc
 refine returnsInHanded_of_row (C := Tryz.checked) (s := Rows.OpenSpec.upto Rows.hashjoinBucketSpec) own started (by kernel_rfl) Tryz.func3
  (witness_row_atRef (enc := enc) (C := Tryz.checked) false (World.laidAll Tryz.prog os Rows.hashjoinBucketUptoRow.laid) #[.agg #[.slice none 0 0, .slice none 0 0], .agg #[.slice none 0 0, .slice none 0 0], .slice none 0 0, .int .i64 0, .int .i64 0] (World.laidAll_os _ _ _) (by kernel_rfl) (by kernel_rfl) (by kernel_rfl)
   (OpenSpec.preRow_of_cond 8 hx (by kernel_rfl) (fun k hk => by cases hk; kernel_rfl) (by kernel_rfl) (zt6 os))) ?_
 intro W base args ds gs before hval hW _ hcond _ hL hS _
 exact zpR H enc W base args ds gs before hval hW (hcond _ rfl) hL hS
end Go.Proofs.YtklniminnejicaaGreatDoor.hashjoinBucket
