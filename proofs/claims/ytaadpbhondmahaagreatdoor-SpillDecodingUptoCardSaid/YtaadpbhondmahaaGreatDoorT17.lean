/- Part of a proof. -/
import Derived.Shelf.Strings.SlTrimAscii
import Derived.KernelRfl
import Derived.Test.YtaadpbhondmahaaGreatDoorT9
import Derived.Test.YtaadpbhondmahaaGreatDoorT12
import Derived.Test.YtaadpbhondmahaaGreatDoorT16
set_option linter.all false
set_option maxRecDepth 100000
namespace Go.Proofs.Tryz
open Go Go.Ev Go.RowKit
theorem zd7 {f : FuncId} {fn : Func} (h1 : prog.funcs[f]? = some fn) (h2 : (fn.body.isSome && fn.name != "runtime.NumGoroutine") = true) : zlk prog f := by
 simp only [Bool.and_eq_true, bne_iff_ne] at h2
 exact ⟨fn, h1, h2.1, h2.2⟩
def zno (W : World) (f : FuncId) (p : List D → Option D) : Prop := ∀ (args : List D) (d : D), p args = some d → zlk prog f ∧ zrj d = true ∧ ∀ (S : Nat → Prop) (w : World) (ι : Ev.Loc) (m : Mem) (vals : Array Value), G0 W S w → Sim S w ι m → zfl S w ι m vals.toList args →
    Calls prog f vals w (zqN S w ι m d)
structure Held (W : World) : Prop where
 pow : Lib.TabIs prog W "internal/strconv.uint64pow10" .u64 Lib.pow10Tab
 maxLen : ∃ g m, prog.globalNamed "internal/bytealg.MaxLen" = some g ∧ W.cell? ⟨g, 0, none⟩ = some (.int .i64 m)
 synt : ∃ g v, prog.globalNamed "strconv.ErrSyntax" = some g ∧ W.cell? ⟨g, 0, none⟩ = some v ∧ (v = .nilIface ∨ ∃ te pe, v = .iface te pe)
 range : ∃ g v, prog.globalNamed "strconv.ErrRange" = some g ∧ W.cell? ⟨g, 0, none⟩ = some v ∧ (v = .nilIface ∨ ∃ te pe, v = .iface te pe)
theorem zHe {w : World} {g o : Nat} {v : Value} (h : w.cell? ⟨g, o, none⟩ = some v) : g < w.heap.size := by
 rcases Nat.lt_or_ge g w.heap.size with h1 | h1
 · exact h1
 · exfalso
   simp only [World.cell?] at h
   have : w.heap[g]? = none := Array.getElem?_eq_none h1
   simp [this] at h
theorem ziO {W w : World} (hb : Below W.heap.size W w) {g o : Nat} {v : Value} (h : W.cell? ⟨g, o, none⟩ = some v) : w.cell? ⟨g, o, none⟩ = some v := by
 rw [hb.cell (p := ⟨g, o, none⟩) (zHe h)]; exact h
theorem zy9 (B : Nat) (w : World) (n : Nat) : Below B w (w.drewN n) := ⟨rfl, rfl, rfl, Nat.le_refl _, fun _ _ => rfl⟩
theorem zgG {S : Nat → Prop} {w w' : World} {ι : Ev.Loc} {m : Mem} {vs : Array Value} {ds : List D} {e : Ending} (he : e = .returned (.tuple vs)) (h : Below w.heap.size w w') (l : vs.size = ds.length) (hr : ∀ (i : Nat) (v : Value) (d : D), vs[i]? = some v → ds[i]? = some d → Rep S w' ι m v d) : zqN S w ι m (.tup ds) e w' :=
 ⟨_, he, .tup _ _ l hr, zqn h, h.size, h.block⟩
theorem zq7 {S : Nat → Prop} {w : World} {ι : Ev.Loc} {m : Mem} {a b : Value} {x y : D} (h1 : Rep S w ι m a x) (h2 : Rep S w ι m b y) : ∀ (i : Nat) (v : Value) (d : D), (#[a, b] : Array Value)[i]? = some v → [x, y][i]? = some d → Rep S w ι m v d := by
 intro i v d hv hd
 match i with
 | 0 => simp at hv hd; subst hv hd; exact h1
 | 1 => simp at hv hd; subst hv hd; exact h2
 | n + 2 => simp at hd
theorem zB8 {S : Nat → Prop} {w : World} {ι : Ev.Loc} {m : Mem} {a b c : Value} {x y z : D} (h1 : Rep S w ι m a x) (h2 : Rep S w ι m b y) (h3 : Rep S w ι m c z) : ∀ (i : Nat) (v : Value) (d : D), (#[a, b, c] : Array Value)[i]? = some v → [x, y, z][i]? = some d → Rep S w ι m v d := by
 intro i v d hv hd
 match i with
 | 0 => simp at hv hd; subst hv hd; exact h1
 | 1 => simp at hv hd; subst hv hd; exact h2
 | 2 => simp at hv hd; subst hv hd; exact h3
 | n + 3 => simp at hd
-- strings.Compare
theorem zwT (W : World) : zno W 121 zqg := by
 intro args d h
 unfold zqg at h
 split at h
 · rename_i a b
   cases h
   refine ⟨zd7 func121 (by kernel_rfl), rfl, fun S w ι m vals hG hs hr => ?_⟩
   obtain ⟨v, u, rfl, h1, h2⟩ := zBs hr
   obtain rfl := h1.str_inv
   obtain rfl := h2.str_inv
   refine (Tryz.strings_Compare _ _ w).mono fun e w' he => ?_
   obtain ⟨he, rfl⟩ := he
   rw [ztC] at he
   exact zwU he (Below.refl _ _)
 · cases h
-- strconv.Itoa
theorem zCp {W : World} (hW : Held W) : zno W 128 zAF := by
 intro args d h
 unfold zAF at h
 split at h
 · rename_i n
   split at h
   · rename_i hn
     cases h
     have hn := zzK hn
     refine ⟨zd7 func128 (by kernel_rfl), rfl, fun S w ι m vals hG hs hr => ?_⟩
     obtain ⟨v, rfl, h1⟩ := zNr hr
     obtain rfl := h1.int_inv
     refine (Tryz.strconv_Itoa n hn.1 hn.2 w (Lib.tabBelow_of_tabIs hW.pow w hG.1)).mono fun e w' he => ?_
     obtain ⟨he, k, os, rfl⟩ := he
     rw [← zzI hn] at he
     exact zhQ he (Lib.below_grow _ w (Nat.le_refl _) k os)
   · cases h
 · cases h
-- strconv.FormatInt
theorem zt5 {W : World} (hW : Held W) : zno W 96 zg4 := by
 intro args d h
 unfold zg4 at h
 split at h
 · rename_i n b
   split at h
   · rename_i hn
     cases h
     rw [Bool.and_eq_true, beq_iff_eq] at hn
     obtain ⟨hn, rfl⟩ := hn
     have hn := zzK hn
     refine ⟨zd7 func96 (by kernel_rfl), rfl, fun S w ι m vals hG hs hr => ?_⟩
     obtain ⟨v, u, rfl, h1, h2⟩ := zBs hr
     obtain rfl := h1.int_inv
     obtain rfl := h2.int_inv
     refine (Tryz.strconv_FormatInt_10 n hn.1 hn.2 w (Lib.tabBelow_of_tabIs hW.pow w hG.1)).mono fun e w' he => ?_
     obtain ⟨he, k, os, rfl⟩ := he
     rw [← zzI hn] at he
     exact zhQ he (Lib.below_grow _ w (Nat.le_refl _) k os)
   · cases h
 · cases h
-- strings.Join
theorem zCo (W : World) : zno W 98 zyz := by
 intro args d h
 unfold zyz at h
 split at h
 · rename_i f rows sep
   obtain ⟨xs, hx, h2⟩ := zaa h
   obtain ⟨_, hl, h3⟩ := zaa h2
   cases h3
   have hl := zcO hl
   simp only [Bool.and_eq_true, decide_eq_true_eq] at hl
   obtain rfl := zBq hx
   refine ⟨zd7 func98 (by kernel_rfl), rfl, fun S w ι m vals hG hs hr => ?_⟩
   obtain ⟨v, u, rfl, h1, h2⟩ := zBs hr
   obtain rfl := h2.str_inv
   rcases zEk h1 hs.lt with ⟨rfl, a, c, rfl⟩ | ⟨b, o, c, rfl, hb, hc, hcell⟩
   · refine (Tryz.strings_Join_none a c _ w).mono fun e w' he => ?_
     obtain ⟨he, rfl⟩ := he
     exact zhQ (by rw [he]; rfl) (Below.refl _ _)
   · have e1 : ((xs.map fun x => (⟨x.toArray⟩ : ByteArray)).map (·.data.toList)) = xs := by rw [List.map_map]; exact List.map_id _
     have := Tryz.strings_Join b o c (xs.map fun x => ⟨x.toArray⟩) ⟨sep.toArray⟩ w (fun j x hj => by
      rw [List.getElem?_map] at hj
      cases hz : xs[j]? with
      | none => rw [hz] at hj; cases hj
      | some z => rw [hz] at hj; cases hj; exact hcell j z hz) hb (by rw [List.length_map]; exact hl.2) (by rw [List.length_map]; exact hc) (by rw [e1]; exact hl.1)
     rw [List.length_map] at this
     refine this.mono fun e w' he => ?_
     obtain ⟨he, hbw⟩ := he
     rw [e1] at he
     exact zhQ he hbw
 · cases h
-- strings.ReplaceAll
theorem zs9 {W : World} (hW : Held W) : zno W 186 ziF := by
 intro args d h
 unfold ziF at h
 split at h
 · rename_i s old new
   split at h
   · rename_i hn
     cases h
     obtain ⟨h1, h2, h3⟩ := hn
     refine ⟨zd7 func186 (by kernel_rfl), rfl, fun S w ι m vals hG hs hr => ?_⟩
     obtain ⟨a, b, c, rfl, r1, r2, r3⟩ := zNq hr
     obtain rfl := r1.str_inv
     obtain rfl := r2.str_inv
     obtain rfl := r3.str_inv
     obtain ⟨g, k, hg, hc⟩ := hW.maxLen
     obtain rfl : g = 0 := Option.some.inj (hg.symm.trans (by kernel_rfl))
     refine (Tryz.strings_ReplaceAll ⟨s.toArray⟩ ⟨old.toArray⟩ ⟨new.toArray⟩ k w h1 (ziO hG.1 hc) h2 h3).mono fun e w' he => ?_
     obtain ⟨he, hbw⟩ := he
     exact zhQ he hbw
   · cases h
 · cases h
-- strings.Contains
theorem zvB {W : World} (hW : Held W) : zno W 235 zlZ := by
 intro args d h
 unfold zlZ at h
 split at h
 · rename_i s sub
   split at h
   · rename_i hn
     cases h
     refine ⟨zd7 func235 (by kernel_rfl), rfl, fun S w ι m vals hG hs hr => ?_⟩
     obtain ⟨a, b, rfl, r1, r2⟩ := zBs hr
     obtain rfl := r1.str_inv
     obtain rfl := r2.str_inv
     obtain ⟨g, k, hg, hc⟩ := hW.maxLen
     obtain rfl : g = 0 := Option.some.inj (hg.symm.trans (by kernel_rfl))
     refine (Tryz.strings_Contains ⟨s.toArray⟩ ⟨sub.toArray⟩ k w hn (ziO hG.1 hc)).mono fun e w' he => ?_
     obtain ⟨he, rfl⟩ := he
     exact zvC he (Below.refl _ _)
   · cases h
 · cases h
-- strings.Cut
theorem zEG {W : World} (hW : Held W) : zno W 193 zHx := by
 intro args d h
 unfold zHx at h
 split at h
 · rename_i s sep
   split at h
   · rename_i hn
     cases h
     refine ⟨zd7 func193 (by kernel_rfl), rfl, fun S w ι m vals hG hs hr => ?_⟩
     obtain ⟨a, b, rfl, r1, r2⟩ := zBs hr
     obtain rfl := r1.str_inv
     obtain rfl := r2.str_inv
     obtain ⟨g, k, hg, hc⟩ := hW.maxLen
     obtain rfl : g = 0 := Option.some.inj (hg.symm.trans (by kernel_rfl))
     refine (Tryz.strings_Cut ⟨s.toArray⟩ ⟨sep.toArray⟩ k w hn (ziO hG.1 hc)).mono fun e w' he => ?_
     obtain ⟨he, q, rfl⟩ := he
     exact zgG he (zy9 _ _ _) rfl (zB8 (.ext _ _ (.str _)) (.ext _ _ (.str _)) (.ext _ _ (.bool _)))
   · cases h
 · cases h
-- strings.Trim
theorem zCm (W : World) : zno W 237 zAD := by
 intro args d h
 unfold zAD at h
 split at h
 · rename_i s set
   split at h
   · rename_i hn
     cases h
     obtain ⟨h0, h1, h2, h3, h4⟩ := hn
     refine ⟨zd7 func237 (by kernel_rfl), rfl, fun S w ι m vals hG hs hr => ?_⟩
     obtain ⟨a, b, rfl, r1, r2⟩ := zBs hr
     obtain rfl := r1.str_inv
     obtain rfl := r2.str_inv
     have hl : lim = 4294967281 := rfl
     refine (Any.strings_Trim_laid Tryz.lays160 (by kernel_rfl) ⟨s.toArray⟩ ⟨set.toArray⟩ w (Nat.le_of_lt (Nat.lt_of_lt_of_le h1 (by decide))) h3 (ascii_of_all h4)).mono fun e w' he => ?_
     obtain ⟨he, hbw⟩ := he
     exact zhQ he hbw
   · cases h
 · cases h
-- strconv.ParseInt
theorem zvW {S : Nat → Prop} {w : World} {ι : Ev.Loc} {m : Mem} {t : TypeId} {v : Value} : Rep S w ι m (.iface t v) (zBA t false) := .iface _ _ _ (.unk _)
theorem zzR {S : Nat → Prop} {w : World} {ι : Ev.Loc} {m : Mem} {t : TypeId} : Rep S w ι m .nilIface (zBA t true) := .ext _ _ .nili
theorem zvA {W : World} (hW : Held W) : zno W 172 (zlY zqi) := by
 intro args d h
 unfold zlY at h
 split at h
 · rename_i s b z
   split at h
   · rename_i hn
     cases h
     obtain ⟨h1, rfl, rfl⟩ := hn
     refine ⟨zd7 func172 (by kernel_rfl), by simp [zrj, ztq, zxj], fun S w ι m vals hG hs hr => ?_⟩
     obtain ⟨a, b, c, rfl, r1, r2, r3⟩ := zNq hr
     obtain rfl := r1.str_inv
     obtain rfl := r2.int_inv
     obtain rfl := r3.int_inv
     have hl : s.length ≤ 4294967281 := Nat.le_of_lt h1
     unfold zlo ziu
     rcases ha : Lib.atoiAll s with v | _ | _
     · refine (Tryz.strconv_ParseInt_10_at64_ok ⟨s.toArray⟩ (Nat.le_trans hl (by decide)) v (by rw [Lib.parseIntB_64]; exact ha) w).mono fun e w' he => ?_
       obtain ⟨he, hw⟩ := he
       exact zgG he (by rcases hw with rfl | ⟨t, rfl⟩; exact Below.refl _ _; exact Lib.bytesWorld_below _ _ _) rfl (zq7 (.ext _ _ (.int _ _)) zzR)
     · obtain ⟨g, ev, hg, hc, hev⟩ := hW.synt
       obtain rfl : g = 4 := Option.some.inj (hg.symm.trans (by kernel_rfl))
       refine (Tryz.strconv_ParseInt_10_at64_syntax ⟨s.toArray⟩ (Nat.le_trans hl (by decide)) (by rw [Lib.parseIntB_64]; exact ha) ev w (ziO hG.1 hc) hev).mono fun e w' he => ?_
       obtain ⟨N, he, _, _, hb⟩ := he
       exact zgG he hb rfl (zq7 (.ext _ _ (.int _ _)) zvW)
     · obtain ⟨g, ev, hg, hc, hev⟩ := hW.range
       obtain rfl : g = 5 := Option.some.inj (hg.symm.trans (by kernel_rfl))
       refine (Tryz.strconv_ParseInt_10_at64_range ⟨s.toArray⟩ (Nat.le_trans hl (by decide)) (by rw [Lib.parseIntB_64]; exact ha) ev w (ziO hG.1 hc) hev).mono fun e w' he => ?_
       obtain ⟨N, he, _, _, hb⟩ := he
       rw [Lib.intSat_64] at he
       exact zgG he hb rfl (zq7 (.ext _ _ (.int _ _)) zvW)
   · cases h
 · cases h
-- strconv.Atoi
theorem zCq {W : World} (hW : Held W) : zno W 212 (zAH zqi) := by
 intro args d h
 unfold zAH at h
 split at h
 · rename_i s
   split at h
   · rename_i h1
     cases h
     refine ⟨zd7 func212 (by kernel_rfl), by simp [zrj, ztq, zxj], fun S w ι m vals hG hs hr => ?_⟩
     obtain ⟨a, rfl, r1⟩ := zNr hr
     obtain rfl := r1.str_inv
     have hl : s.length ≤ 4294967281 := Nat.le_of_lt h1
     unfold ziu
     rcases ha : Lib.atoiAll s with v | _ | _
     · refine (Tryz.strconv_Atoi_ok ⟨s.toArray⟩ (Nat.le_trans hl (by decide)) v ha w).mono fun e w' he => ?_
       obtain ⟨he, hw⟩ := he
       exact zgG he (by rcases hw with rfl | ⟨t, rfl⟩; exact Below.refl _ _; exact Lib.bytesWorld_below _ _ _) rfl (zq7 (.ext _ _ (.int _ _)) zzR)
     · obtain ⟨g, ev, hg, hc, hev⟩ := hW.synt
       obtain rfl : g = 4 := Option.some.inj (hg.symm.trans (by kernel_rfl))
       refine (Tryz.strconv_Atoi_syntax ⟨s.toArray⟩ (Nat.le_trans hl (by decide)) ha ev w (ziO hG.1 hc) hev).mono fun e w' he => ?_
       obtain ⟨N, he, _, _, hb⟩ := he
       exact zgG he hb rfl (zq7 (.ext _ _ (.int _ _)) zvW)
     · obtain ⟨g, ev, hg, hc, hev⟩ := hW.range
       obtain rfl : g = 5 := Option.some.inj (hg.symm.trans (by kernel_rfl))
       refine (Tryz.strconv_Atoi_range ⟨s.toArray⟩ (Nat.le_trans hl (by decide)) ha ev w (ziO hG.1 hc) hev).mono fun e w' he => ?_
       obtain ⟨N, he, _, _, hb⟩ := he
       exact zgG he hb rfl (zq7 (.ext _ _ (.int _ _)) zvW)
   · cases h
 · cases h
end Go.Proofs.Tryz
