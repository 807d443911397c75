/- Part of a proof. -/
import Derived.Shelf.Strings.SlTrimAscii
import Derived.KernelRfl
import Derived.Test.YtaadpbhondmahaaGreatDoorT9
import Derived.Test.YtaadpbhondmahaaGreatDoorT12
import Derived.Test.YtaadpbhondmahaaGreatDoorT16
set_option linter.all false
set_option maxRecDepth 100000
namespace Go.Proofs.Tryz
open Go Go.Ev Go.RowKit
theorem ze5 {f : FuncId} {fn : Func} (h1 : prog.funcs[f]? = some fn) (h2 : (fn.body.isSome && fn.name != "runtime.NumGoroutine") = true) : zoH prog f := by
 simp only [yK, bne_iff_ne] at h2
 exact ⟨fn, h1, h2.1, h2.2⟩
def zrz (W : World) (f : FuncId) (p : List D -> Option D) : Prop := ∀ (args : List D) (d : D), p args = some d -> zoH prog f /\ zxr d = true /\ ∀ (S : Nat -> Prop) (w : World) (ι : Ev.Loc) (m : Mem) (vals : Array Value), G0 W S w -> Sim S w ι m -> zgH S w ι m vals.toList args ->
    Calls prog f vals w (zww S w ι m d)
structure Held (W : World) : Prop where
 pow : Lib.TabIs prog W "internal/strconv.uint64pow10" .u64 Lib.pow10Tab
 maxLen : ∃ g m, prog.globalNamed "internal/bytealg.MaxLen" = some g /\ W.cell? ⟨g, 0, none⟩ = some (.int .i64 m)
 synt : ∃ g v, prog.globalNamed "strconv.ErrSyntax" = some g /\ W.cell? ⟨g, 0, none⟩ = some v /\ (v = .nilIface ∨ ∃ te pe, v = .iface te pe)
 range : ∃ g v, prog.globalNamed "strconv.ErrRange" = some g /\ W.cell? ⟨g, 0, none⟩ = some v /\ (v = .nilIface ∨ ∃ te pe, v = .iface te pe)
theorem zRe {w : World} {g o : Nat} {v : Value} (h : w.cell? ⟨g, o, none⟩ = some v) : g < w.heap.size := by
 rcases Nat.lt_or_ge g w.heap.size with h1 | h1
 · exact h1
 · exfalso
   simp only [World.cell?] at h
   have : w.heap[g]? = none := Array.getElem?_eq_none h1
   simp [this] at h
theorem zlk {W w : World} (hb : Below W.heap.size W w) {g o : Nat} {v : Value} (h : W.cell? ⟨g, o, none⟩ = some v) : w.cell? ⟨g, o, none⟩ = some v := by
 rw [hb.cell (p := ⟨g, o, none⟩) (zRe h)]; exact h
theorem zIg (B : Nat) (w : World) (n : Nat) : Below B w (w.drewN n) := ⟨rfl, rfl, rfl, yP _, fun _ _ => rfl⟩
theorem zip {S : Nat -> Prop} {w w' : World} {ι : Ev.Loc} {m : Mem} {vs : Array Value} {ds : List D} {e : Ending} (he : e = .returned (.tuple vs)) (h : Below w.heap.size w w') (l : vs.size = ds.length) (hr : ∀ (i : Nat) (v : Value) (d : D), vs[i]? = some v -> ds[i]? = some d -> Rep S w' ι m v d) : zww S w ι m (.tup ds) e w' :=
 ⟨_, he, .tup _ _ l hr, zvR h, h.size, h.block⟩
theorem zxd {S : Nat -> Prop} {w : World} {ι : Ev.Loc} {m : Mem} {a b : Value} {x y : D} (h1 : Rep S w ι m a x) (h2 : Rep S w ι m b y) : ∀ (i : Nat) (v : Value) (d : D), (#[a, b] : Array Value)[i]? = some v -> [x, y][i]? = some d -> Rep S w ι m v d := by
 intro i v d hv hd
 match i with
 | 0 => simp at hv hd; subst hv hd; exact h1
 | 1 => simp at hv hd; subst hv hd; exact h2
 | n + 2 => simp at hd
theorem zLZ {S : Nat -> Prop} {w : World} {ι : Ev.Loc} {m : Mem} {a b c : Value} {x y z : D} (h1 : Rep S w ι m a x) (h2 : Rep S w ι m b y) (h3 : Rep S w ι m c z) : ∀ (i : Nat) (v : Value) (d : D), (#[a, b, c] : Array Value)[i]? = some v -> [x, y, z][i]? = some d -> Rep S w ι m v d := by
 intro i v d hv hd
 match i with
 | 0 => simp at hv hd; subst hv hd; exact h1
 | 1 => simp at hv hd; subst hv hd; exact h2
 | 2 => simp at hv hd; subst hv hd; exact h3
 | n + 3 => simp at hd
-- strings.Compare
theorem zFn (W : World) : zrz W 121 zvJ := by
 intro args d h
 unfold zvJ at h
 split at h
 · rename_i a b
   cases h
   refine ⟨ze5 func121 (by kernel_rfl), rfl, fun S w ι m vals hG hs hr => ?_⟩
   obtain ⟨v, u, rfl, h1, h2⟩ := zK3 hr
   obtain rfl := h1.str_inv
   obtain rfl := h2.str_inv
   refine (Tryz.strings_Compare _ _ w).mono fun e w' he => ?_
   obtain ⟨he, rfl⟩ := he
   rw [zAx] at he
   exact zFo he (Below.refl _ _)
 · cases h
-- strconv.Itoa
theorem zMh {W : World} (hW : Held W) : zrz W 128 zJ4 := by
 intro args d h
 unfold zJ4 at h
 split at h
 · rename_i n
   split at h
   · rename_i hn
     cases h
     have hn := zIZ hn
     refine ⟨ze5 func128 (by kernel_rfl), rfl, fun S w ι m vals hG hs hr => ?_⟩
     obtain ⟨v, rfl, h1⟩ := zWn hr
     obtain rfl := h1.int_inv
     refine (Tryz.strconv_Itoa n hn.1 hn.2 w (Lib.tabBelow_of_tabIs hW.pow w hG.1)).mono fun e w' he => ?_
     obtain ⟨he, k, os, rfl⟩ := he
     rw [<- zIX hn] at he
     exact zj1 he (Lib.below_grow _ w (yP _) k os)
   · cases h
 · cases h
-- strconv.FormatInt
theorem zBv {W : World} (hW : Held W) : zrz W 96 ziV := by
 intro args d h
 unfold ziV at h
 split at h
 · rename_i n b
   split at h
   · rename_i hn
     cases h
     rw [yK, beq_iff_eq] at hn
     obtain ⟨hn, rfl⟩ := hn
     have hn := zIZ hn
     refine ⟨ze5 func96 (by kernel_rfl), rfl, fun S w ι m vals hG hs hr => ?_⟩
     obtain ⟨v, u, rfl, h1, h2⟩ := zK3 hr
     obtain rfl := h1.int_inv
     obtain rfl := h2.int_inv
     refine (Tryz.strconv_FormatInt_10 n hn.1 hn.2 w (Lib.tabBelow_of_tabIs hW.pow w hG.1)).mono fun e w' he => ?_
     obtain ⟨he, k, os, rfl⟩ := he
     rw [<- zIX hn] at he
     exact zj1 he (Lib.below_grow _ w (yP _) k os)
   · cases h
 · cases h
-- strings.Join
theorem zMg (W : World) : zrz W 98 zHv := by
 intro args d h
 unfold zHv at h
 split at h
 · rename_i f rows sep
   obtain ⟨xs, hx, h2⟩ := zaa h
   obtain ⟨_, hl, h3⟩ := zaa h2
   cases h3
   have hl := zdA hl
   simp only [yK, YG] at hl
   obtain rfl := zK1 hx
   refine ⟨ze5 func98 (by kernel_rfl), rfl, fun S w ι m vals hG hs hr => ?_⟩
   obtain ⟨v, u, rfl, h1, h2⟩ := zK3 hr
   obtain rfl := h2.str_inv
   rcases zOs h1 hs.lt with ⟨rfl, a, c, rfl⟩ | ⟨b, o, c, rfl, hb, hc, hcell⟩
   · refine (Tryz.strings_Join_none a c _ w).mono fun e w' he => ?_
     obtain ⟨he, rfl⟩ := he
     exact zj1 (by rw [he]; rfl) (Below.refl _ _)
   · have e1 : ((xs.map fun x => (⟨x.toArray⟩ : ByteArray)).map (·.data.toList)) = xs := by rw [List.map_map]; exact List.map_id _
     have := Tryz.strings_Join b o c (xs.map fun x => ⟨x.toArray⟩) ⟨sep.toArray⟩ w (fun j x hj => by
      rw [YA] at hj
      cases hz : xs[j]? with
      | none => rw [hz] at hj; cases hj
      | some z => rw [hz] at hj; cases hj; exact hcell j z hz) hb (by rw [yV]; exact hl.2) (by rw [yV]; exact hc) (by rw [e1]; exact hl.1)
     rw [yV] at this
     refine this.mono fun e w' he => ?_
     obtain ⟨he, hbw⟩ := he
     rw [e1] at he
     exact zj1 he hbw
 · cases h
-- strings.ReplaceAll
theorem zz1 {W : World} (hW : Held W) : zrz W 186 zld := by
 intro args d h
 unfold zld at h
 split at h
 · rename_i s old new
   split at h
   · rename_i hn
     cases h
     obtain ⟨h1, h2, h3⟩ := hn
     refine ⟨ze5 func186 (by kernel_rfl), rfl, fun S w ι m vals hG hs hr => ?_⟩
     obtain ⟨a, b, c, rfl, r1, r2, r3⟩ := zWm hr
     obtain rfl := r1.str_inv
     obtain rfl := r2.str_inv
     obtain rfl := r3.str_inv
     obtain ⟨g, k, hg, hc⟩ := hW.maxLen
     obtain rfl : g = 0 := yO (hg.symm.trans (by kernel_rfl))
     refine (Tryz.strings_ReplaceAll ⟨s.toArray⟩ ⟨old.toArray⟩ ⟨new.toArray⟩ k w h1 (zlk hG.1 hc) h2 h3).mono fun e w' he => ?_
     obtain ⟨he, hbw⟩ := he
     exact zj1 he hbw
   · cases h
 · cases h
-- strings.Contains
theorem zDv {W : World} (hW : Held W) : zrz W 235 zpv := by
 intro args d h
 unfold zpv at h
 split at h
 · rename_i s sub
   split at h
   · rename_i hn
     cases h
     refine ⟨ze5 func235 (by kernel_rfl), rfl, fun S w ι m vals hG hs hr => ?_⟩
     obtain ⟨a, b, rfl, r1, r2⟩ := zK3 hr
     obtain rfl := r1.str_inv
     obtain rfl := r2.str_inv
     obtain ⟨g, k, hg, hc⟩ := hW.maxLen
     obtain rfl : g = 0 := yO (hg.symm.trans (by kernel_rfl))
     refine (Tryz.strings_Contains ⟨s.toArray⟩ ⟨sub.toArray⟩ k w hn (zlk hG.1 hc)).mono fun e w' he => ?_
     obtain ⟨he, rfl⟩ := he
     exact zDw he (Below.refl _ _)
   · cases h
 · cases h
-- strings.Cut
theorem zOM {W : World} (hW : Held W) : zrz W 193 zRz := by
 intro args d h
 unfold zRz at h
 split at h
 · rename_i s sep
   split at h
   · rename_i hn
     cases h
     refine ⟨ze5 func193 (by kernel_rfl), rfl, fun S w ι m vals hG hs hr => ?_⟩
     obtain ⟨a, b, rfl, r1, r2⟩ := zK3 hr
     obtain rfl := r1.str_inv
     obtain rfl := r2.str_inv
     obtain ⟨g, k, hg, hc⟩ := hW.maxLen
     obtain rfl : g = 0 := yO (hg.symm.trans (by kernel_rfl))
     refine (Tryz.strings_Cut ⟨s.toArray⟩ ⟨sep.toArray⟩ k w hn (zlk hG.1 hc)).mono fun e w' he => ?_
     obtain ⟨he, q, rfl⟩ := he
     exact zip he (zIg _ _ _) rfl (zLZ (.ext _ _ (.str _)) (.ext _ _ (.str _)) (.ext _ _ (.bool _)))
   · cases h
 · cases h
-- strings.Trim
theorem zMe (W : World) : zrz W 237 zJ1 := by
 intro args d h
 unfold zJ1 at h
 split at h
 · rename_i s set
   split at h
   · rename_i hn
     cases h
     obtain ⟨h0, h1, h2, h3, h4⟩ := hn
     refine ⟨ze5 func237 (by kernel_rfl), rfl, fun S w ι m vals hG hs hr => ?_⟩
     obtain ⟨a, b, rfl, r1, r2⟩ := zK3 hr
     obtain rfl := r1.str_inv
     obtain rfl := r2.str_inv
     have hl : lim = 4294967281 := rfl
     refine (Any.strings_Trim_laid Tryz.lays160 (by kernel_rfl) ⟨s.toArray⟩ ⟨set.toArray⟩ w (Nat.le_of_lt (Nat.lt_of_lt_of_le h1 (by decide))) h3 (ascii_of_all h4)).mono fun e w' he => ?_
     obtain ⟨he, hbw⟩ := he
     exact zj1 he hbw
   · cases h
 · cases h
-- strconv.ParseInt
theorem zDO {S : Nat -> Prop} {w : World} {ι : Ev.Loc} {m : Mem} {t : TypeId} {v : Value} : Rep S w ι m (.iface t v) (zLi t false) := .iface _ _ _ (.unk _)
theorem zI5 {S : Nat -> Prop} {w : World} {ι : Ev.Loc} {m : Mem} {t : TypeId} : Rep S w ι m .nilIface (zLi t true) := .ext _ _ .nili
theorem zDu {W : World} (hW : Held W) : zrz W 172 (zpu zvM) := by
 intro args d h
 unfold zpu at h
 split at h
 · rename_i s b z
   split at h
   · rename_i hn
     cases h
     obtain ⟨h1, rfl, rfl⟩ := hn
     refine ⟨ze5 func172 (by kernel_rfl), by simp [zxr, zAq, zFX], fun S w ι m vals hG hs hr => ?_⟩
     obtain ⟨a, b, c, rfl, r1, r2, r3⟩ := zWm hr
     obtain rfl := r1.str_inv
     obtain rfl := r2.int_inv
     obtain rfl := r3.int_inv
     have hl : s.length <= 4294967281 := Nat.le_of_lt h1
     unfold zoN zj2
     rcases ha : Lib.atoiAll s with v | _ | _
     · refine (Tryz.strconv_ParseInt_10_at64_ok ⟨s.toArray⟩ (Nat.le_trans hl (by decide)) v (by rw [Lib.parseIntB_64]; exact ha) w).mono fun e w' he => ?_
       obtain ⟨he, hw⟩ := he
       exact zip he (by rcases hw with rfl | ⟨t, rfl⟩; exact Below.refl _ _; exact Lib.bytesWorld_below _ _ _) rfl (zxd (.ext _ _ (.int _ _)) zI5)
     · obtain ⟨g, ev, hg, hc, hev⟩ := hW.synt
       obtain rfl : g = 4 := yO (hg.symm.trans (by kernel_rfl))
       refine (Tryz.strconv_ParseInt_10_at64_syntax ⟨s.toArray⟩ (Nat.le_trans hl (by decide)) (by rw [Lib.parseIntB_64]; exact ha) ev w (zlk hG.1 hc) hev).mono fun e w' he => ?_
       obtain ⟨N, he, _, _, hb⟩ := he
       exact zip he hb rfl (zxd (.ext _ _ (.int _ _)) zDO)
     · obtain ⟨g, ev, hg, hc, hev⟩ := hW.range
       obtain rfl : g = 5 := yO (hg.symm.trans (by kernel_rfl))
       refine (Tryz.strconv_ParseInt_10_at64_range ⟨s.toArray⟩ (Nat.le_trans hl (by decide)) (by rw [Lib.parseIntB_64]; exact ha) ev w (zlk hG.1 hc) hev).mono fun e w' he => ?_
       obtain ⟨N, he, _, _, hb⟩ := he
       rw [Lib.intSat_64] at he
       exact zip he hb rfl (zxd (.ext _ _ (.int _ _)) zDO)
   · cases h
 · cases h
-- strconv.Atoi
theorem zMi {W : World} (hW : Held W) : zrz W 212 (zJ8 zvM) := by
 intro args d h
 unfold zJ8 at h
 split at h
 · rename_i s
   split at h
   · rename_i h1
     cases h
     refine ⟨ze5 func212 (by kernel_rfl), by simp [zxr, zAq, zFX], fun S w ι m vals hG hs hr => ?_⟩
     obtain ⟨a, rfl, r1⟩ := zWn hr
     obtain rfl := r1.str_inv
     have hl : s.length <= 4294967281 := Nat.le_of_lt h1
     unfold zj2
     rcases ha : Lib.atoiAll s with v | _ | _
     · refine (Tryz.strconv_Atoi_ok ⟨s.toArray⟩ (Nat.le_trans hl (by decide)) v ha w).mono fun e w' he => ?_
       obtain ⟨he, hw⟩ := he
       exact zip he (by rcases hw with rfl | ⟨t, rfl⟩; exact Below.refl _ _; exact Lib.bytesWorld_below _ _ _) rfl (zxd (.ext _ _ (.int _ _)) zI5)
     · obtain ⟨g, ev, hg, hc, hev⟩ := hW.synt
       obtain rfl : g = 4 := yO (hg.symm.trans (by kernel_rfl))
       refine (Tryz.strconv_Atoi_syntax ⟨s.toArray⟩ (Nat.le_trans hl (by decide)) ha ev w (zlk hG.1 hc) hev).mono fun e w' he => ?_
       obtain ⟨N, he, _, _, hb⟩ := he
       exact zip he hb rfl (zxd (.ext _ _ (.int _ _)) zDO)
     · obtain ⟨g, ev, hg, hc, hev⟩ := hW.range
       obtain rfl : g = 5 := yO (hg.symm.trans (by kernel_rfl))
       refine (Tryz.strconv_Atoi_range ⟨s.toArray⟩ (Nat.le_trans hl (by decide)) ha ev w (zlk hG.1 hc) hev).mono fun e w' he => ?_
       obtain ⟨N, he, _, _, hb⟩ := he
       exact zip he hb rfl (zxd (.ext _ _ (.int _ _)) zDO)
   · cases h
 · cases h
end Go.Proofs.Tryz
