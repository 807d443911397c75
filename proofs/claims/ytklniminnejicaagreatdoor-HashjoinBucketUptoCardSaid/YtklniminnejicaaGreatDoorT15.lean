/- HashjoinBucket: for all rows, key columns, numbers of parts and levels that hold together at most 1048576 values and letters, the law returns true. Condition: that bound (the Upto form). -/
import Derived.Shelf.Strings.SlTrimAscii
import Derived.KernelRfl
import Derived.Test.YtklniminnejicaaGreatDoorT9
import Derived.Test.YtklniminnejicaaGreatDoorT10
import Derived.Test.YtklniminnejicaaGreatDoorT14
set_option linter.all false
set_option maxRecDepth 100000
namespace Go.Proofs.Tryz
open Go Go.Ev Go.RowKit
theorem zbC {f : FuncId} {fn : Func} (h1 : prog.funcs[f]? = some fn) (h2 : (fn.body.isSome && fn.name != "runtime.NumGoroutine") = true) : zfq prog f := by
 simp only [Bool.and_eq_true, bne_iff_ne] at h2
 exact ⟨fn, h1, h2.1, h2.2⟩
def zfv (W : World) (f : FuncId) (p : List D → Option D) : Prop := ∀ (args : List D) (d : D), p args = some d → zfq prog f ∧ zip d = true ∧ ∀ (S : Nat → Prop) (w : World) (ι : Ev.Loc) (m : Mem) (vals : Array Value), G0 W S w → Sim S w ι m → zbS S w ι m vals.toList args →
    Calls prog f vals w (zhD S w ι m d)
structure Held (W : World) : Prop where
 pow : Lib.TabIs prog W "internal/strconv.uint64pow10" .u64 Lib.pow10Tab
 maxLen : ∃ g m, prog.globalNamed "internal/bytealg.MaxLen" = some g ∧ W.cell? ⟨g, 0, none⟩ = some (.int .i64 m)
 synt : ∃ g v, prog.globalNamed "strconv.ErrSyntax" = some g ∧ W.cell? ⟨g, 0, none⟩ = some v ∧ (v = .nilIface ∨ ∃ te pe, v = .iface te pe)
 range : ∃ g v, prog.globalNamed "strconv.ErrRange" = some g ∧ W.cell? ⟨g, 0, none⟩ = some v ∧ (v = .nilIface ∨ ∃ te pe, v = .iface te pe)
theorem zvW {w : World} {g o : Nat} {v : Value} (h : w.cell? ⟨g, o, none⟩ = some v) : g < w.heap.size := by
 rcases Nat.lt_or_ge g w.heap.size with h1 | h1
 · exact h1
 · exfalso
   simp only [World.cell?] at h
   have : w.heap[g]? = none := Array.getElem?_eq_none h1
   simp [this] at h
theorem zds {W w : World} (hb : Below W.heap.size W w) {g o : Nat} {v : Value} (h : W.cell? ⟨g, o, none⟩ = some v) : w.cell? ⟨g, o, none⟩ = some v := by
 rw [hb.cell (p := ⟨g, o, none⟩) (zvW h)]; exact h
theorem zoS (B : Nat) (w : World) (n : Nat) : Below B w (w.drewN n) := ⟨rfl, rfl, rfl, Nat.le_refl _, fun _ _ => rfl⟩
theorem zck {S : Nat → Prop} {w w' : World} {ι : Ev.Loc} {m : Mem} {vs : Array Value} {ds : List D} {e : Ending} (he : e = .returned (.tuple vs)) (h : Below w.heap.size w w') (l : vs.size = ds.length) (hr : ∀ (i : Nat) (v : Value) (d : D), vs[i]? = some v → ds[i]? = some d → Rep S w' ι m v d) : zhD S w ι m (.tup ds) e w' :=
 ⟨_, he, .tup _ _ l hr, zhk h, h.size, h.block⟩
theorem zhP {S : Nat → Prop} {w : World} {ι : Ev.Loc} {m : Mem} {a b : Value} {x y : D} (h1 : Rep S w ι m a x) (h2 : Rep S w ι m b y) : ∀ (i : Nat) (v : Value) (d : D), (#[a, b] : Array Value)[i]? = some v → [x, y][i]? = some d → Rep S w ι m v d := by
 intro i v d hv hd
 match i with
 | 0 => simp at hv hd; subst hv hd; exact h1
 | 1 => simp at hv hd; subst hv hd; exact h2
 | n + 2 => simp at hd
theorem zrI {S : Nat → Prop} {w : World} {ι : Ev.Loc} {m : Mem} {a b c : Value} {x y z : D} (h1 : Rep S w ι m a x) (h2 : Rep S w ι m b y) (h3 : Rep S w ι m c z) : ∀ (i : Nat) (v : Value) (d : D), (#[a, b, c] : Array Value)[i]? = some v → [x, y, z][i]? = some d → Rep S w ι m v d := by
 intro i v d hv hd
 match i with
 | 0 => simp at hv hd; subst hv hd; exact h1
 | 1 => simp at hv hd; subst hv hd; exact h2
 | 2 => simp at hv hd; subst hv hd; exact h3
 | n + 3 => simp at hd
-- strings.Compare
theorem zmD (W : World) : zfv W 83 ziQ := by
 intro args d h
 unfold ziQ at h
 split at h
 · rename_i a b
   cases h
   refine ⟨zbC func83 (by kernel_rfl), rfl, fun S w ι m vals hG hs hr => ?_⟩
   obtain ⟨v, u, rfl, h1, h2⟩ := zq0 hr
   obtain rfl := h1.str_inv
   obtain rfl := h2.str_inv
   refine (Tryz.strings_Compare _ _ w).mono fun e w' he => ?_
   obtain ⟨he, rfl⟩ := he
   rw [zjD] at he
   exact zmE he (Below.refl _ _)
 · cases h
-- strconv.Itoa
theorem zr4 {W : World} (hW : Held W) : zfv W 163 zt0 := by
 intro args d h
 unfold zt0 at h
 split at h
 · rename_i n
   split at h
   · rename_i hn
     cases h
     have hn := zpr hn
     refine ⟨zbC func163 (by kernel_rfl), rfl, fun S w ι m vals hG hs hr => ?_⟩
     obtain ⟨v, rfl, h1⟩ := zxQ hr
     obtain rfl := h1.int_inv
     refine (Tryz.strconv_Itoa n hn.1 hn.2 w (Lib.tabBelow_of_tabIs hW.pow w hG.1)).mono fun e w' he => ?_
     obtain ⟨he, k, os, rfl⟩ := he
     rw [← zpq hn] at he
     exact zcS he (Lib.below_grow _ w (Nat.le_refl _) k os)
   · cases h
 · cases h
-- strconv.FormatInt
theorem zkb {W : World} (hW : Held W) : zfv W 176 zf8 := by
 intro args d h
 unfold zf8 at h
 split at h
 · rename_i n b
   split at h
   · rename_i hn
     cases h
     rw [Bool.and_eq_true, beq_iff_eq] at hn
     obtain ⟨hn, rfl⟩ := hn
     have hn := zpr hn
     refine ⟨zbC func176 (by kernel_rfl), rfl, fun S w ι m vals hG hs hr => ?_⟩
     obtain ⟨v, u, rfl, h1, h2⟩ := zq0 hr
     obtain rfl := h1.int_inv
     obtain rfl := h2.int_inv
     refine (Tryz.strconv_FormatInt_10 n hn.1 hn.2 w (Lib.tabBelow_of_tabIs hW.pow w hG.1)).mono fun e w' he => ?_
     obtain ⟨he, k, os, rfl⟩ := he
     rw [← zpq hn] at he
     exact zcS he (Lib.below_grow _ w (Nat.le_refl _) k os)
   · cases h
 · cases h
-- strings.Join
theorem zr3 (W : World) : zfv W 164 ztZ := by
 intro args d h
 unfold ztZ at h
 split at h
 · rename_i f rows sep
   obtain ⟨xs, hx, h2⟩ := zaa h
   obtain ⟨_, hl, h3⟩ := zaa h2
   cases h3
   have hl := zbb hl
   simp only [Bool.and_eq_true, decide_eq_true_eq] at hl
   obtain rfl := zqY hx
   refine ⟨zbC func164 (by kernel_rfl), rfl, fun S w ι m vals hG hs hr => ?_⟩
   obtain ⟨v, u, rfl, h1, h2⟩ := zq0 hr
   obtain rfl := h2.str_inv
   rcases ztx h1 hs.lt with ⟨rfl, a, c, rfl⟩ | ⟨b, o, c, rfl, hb, hc, hcell⟩
   · refine (Tryz.strings_Join_none a c _ w).mono fun e w' he => ?_
     obtain ⟨he, rfl⟩ := he
     exact zcS (by rw [he]; rfl) (Below.refl _ _)
   · have e1 : ((xs.map fun x => (⟨x.toArray⟩ : ByteArray)).map (·.data.toList)) = xs := by rw [List.map_map]; exact List.map_id _
     have := Tryz.strings_Join b o c (xs.map fun x => ⟨x.toArray⟩) ⟨sep.toArray⟩ w (fun j x hj => by
      rw [List.getElem?_map] at hj
      cases hz : xs[j]? with
      | none => rw [hz] at hj; cases hj
      | some z => rw [hz] at hj; cases hj; exact hcell j z hz) hb (by rw [List.length_map]; exact hl.2) (by rw [List.length_map]; exact hc) (by rw [e1]; exact hl.1)
     rw [List.length_map] at this
     refine this.mono fun e w' he => ?_
     obtain ⟨he, hbw⟩ := he
     rw [e1] at he
     exact zcS he hbw
 · cases h
-- strings.ReplaceAll
theorem zjg {W : World} (hW : Held W) : zfv W 228 zfb := by
 intro args d h
 unfold zfb at h
 split at h
 · rename_i s old new
   split at h
   · rename_i hn
     cases h
     obtain ⟨h1, h2, h3⟩ := hn
     refine ⟨zbC func228 (by kernel_rfl), rfl, fun S w ι m vals hG hs hr => ?_⟩
     obtain ⟨a, b, c, rfl, r1, r2, r3⟩ := zxP hr
     obtain rfl := r1.str_inv
     obtain rfl := r2.str_inv
     obtain rfl := r3.str_inv
     obtain ⟨g, k, hg, hc⟩ := hW.maxLen
     obtain rfl : g = 0 := Option.some.inj (hg.symm.trans (by kernel_rfl))
     refine (Tryz.strings_ReplaceAll ⟨s.toArray⟩ ⟨old.toArray⟩ ⟨new.toArray⟩ k w h1 (zds hG.1 hc) h2 h3).mono fun e w' he => ?_
     obtain ⟨he, hbw⟩ := he
     exact zcS he hbw
   · cases h
 · cases h
-- strings.Contains
theorem zlo {W : World} (hW : Held W) : zfv W 302 zhf := by
 intro args d h
 unfold zhf at h
 split at h
 · rename_i s sub
   split at h
   · rename_i hn
     cases h
     refine ⟨zbC func302 (by kernel_rfl), rfl, fun S w ι m vals hG hs hr => ?_⟩
     obtain ⟨a, b, rfl, r1, r2⟩ := zq0 hr
     obtain rfl := r1.str_inv
     obtain rfl := r2.str_inv
     obtain ⟨g, k, hg, hc⟩ := hW.maxLen
     obtain rfl : g = 0 := Option.some.inj (hg.symm.trans (by kernel_rfl))
     refine (Tryz.strings_Contains ⟨s.toArray⟩ ⟨sub.toArray⟩ k w hn (zds hG.1 hc)).mono fun e w' he => ?_
     obtain ⟨he, rfl⟩ := he
     exact zlp he (Below.refl _ _)
   · cases h
 · cases h
-- strings.Cut
theorem ztX {W : World} (hW : Held W) : zfv W 258 zxZ := by
 intro args d h
 unfold zxZ at h
 split at h
 · rename_i s sep
   split at h
   · rename_i hn
     cases h
     refine ⟨zbC func258 (by kernel_rfl), rfl, fun S w ι m vals hG hs hr => ?_⟩
     obtain ⟨a, b, rfl, r1, r2⟩ := zq0 hr
     obtain rfl := r1.str_inv
     obtain rfl := r2.str_inv
     obtain ⟨g, k, hg, hc⟩ := hW.maxLen
     obtain rfl : g = 0 := Option.some.inj (hg.symm.trans (by kernel_rfl))
     refine (Tryz.strings_Cut ⟨s.toArray⟩ ⟨sep.toArray⟩ k w hn (zds hG.1 hc)).mono fun e w' he => ?_
     obtain ⟨he, q, rfl⟩ := he
     exact zck he (zoS _ _ _) rfl (zrI (.ext _ _ (.str _)) (.ext _ _ (.str _)) (.ext _ _ (.bool _)))
   · cases h
 · cases h
-- strings.Trim
theorem zr1 (W : World) : zfv W 304 ztY := by
 intro args d h
 unfold ztY at h
 split at h
 · rename_i s set
   split at h
   · rename_i hn
     cases h
     obtain ⟨h0, h1, h2, h3, h4⟩ := hn
     refine ⟨zbC func304 (by kernel_rfl), rfl, fun S w ι m vals hG hs hr => ?_⟩
     obtain ⟨a, b, rfl, r1, r2⟩ := zq0 hr
     obtain rfl := r1.str_inv
     obtain rfl := r2.str_inv
     have hl : lim = 4294967281 := rfl
     refine (Any.strings_Trim_laid Tryz.lays160 (by kernel_rfl) ⟨s.toArray⟩ ⟨set.toArray⟩ w (Nat.le_of_lt (Nat.lt_of_lt_of_le h1 (by decide))) h3 (ascii_of_all h4)).mono fun e w' he => ?_
     obtain ⟨he, hbw⟩ := he
     exact zcS he hbw
   · cases h
 · cases h
-- strconv.ParseInt
theorem zlA {S : Nat → Prop} {w : World} {ι : Ev.Loc} {m : Mem} {t : TypeId} {v : Value} : Rep S w ι m (.iface t v) (zte t false) := .iface _ _ _ (.unk _)
theorem zpv {S : Nat → Prop} {w : World} {ι : Ev.Loc} {m : Mem} {t : TypeId} : Rep S w ι m .nilIface (zte t true) := .ext _ _ .nili
theorem zln {W : World} (hW : Held W) : zfv W 240 (zhe zkJ) := by
 intro args d h
 unfold zhe at h
 split at h
 · rename_i s b z
   split at h
   · rename_i hn
     cases h
     obtain ⟨h1, rfl, rfl⟩ := hn
     refine ⟨zbC func240 (by kernel_rfl), by simp [zip, zke, zmP], fun S w ι m vals hG hs hr => ?_⟩
     obtain ⟨a, b, c, rfl, r1, r2, r3⟩ := zxP hr
     obtain rfl := r1.str_inv
     obtain rfl := r2.int_inv
     obtain rfl := r3.int_inv
     have hl : s.length ≤ 4294967281 := Nat.le_of_lt h1
     unfold zof zmH
     rcases ha : Lib.atoiAll s with v | _ | _
     · refine (Tryz.strconv_ParseInt_10_at64_ok ⟨s.toArray⟩ (Nat.le_trans hl (by decide)) v (by rw [Lib.parseIntB_64]; exact ha) w).mono fun e w' he => ?_
       obtain ⟨he, hw⟩ := he
       exact zck he (by rcases hw with rfl | ⟨t, rfl⟩; exact Below.refl _ _; exact Lib.bytesWorld_below _ _ _) rfl (zhP (.ext _ _ (.int _ _)) zpv)
     · obtain ⟨g, ev, hg, hc, hev⟩ := hW.synt
       obtain rfl : g = 2 := Option.some.inj (hg.symm.trans (by kernel_rfl))
       refine (Tryz.strconv_ParseInt_10_at64_syntax ⟨s.toArray⟩ (Nat.le_trans hl (by decide)) (by rw [Lib.parseIntB_64]; exact ha) ev w (zds hG.1 hc) hev).mono fun e w' he => ?_
       obtain ⟨N, he, _, _, hb⟩ := he
       exact zck he hb rfl (zhP (.ext _ _ (.int _ _)) zlA)
     · obtain ⟨g, ev, hg, hc, hev⟩ := hW.range
       obtain rfl : g = 3 := Option.some.inj (hg.symm.trans (by kernel_rfl))
       refine (Tryz.strconv_ParseInt_10_at64_range ⟨s.toArray⟩ (Nat.le_trans hl (by decide)) (by rw [Lib.parseIntB_64]; exact ha) ev w (zds hG.1 hc) hev).mono fun e w' he => ?_
       obtain ⟨N, he, _, _, hb⟩ := he
       rw [Lib.intSat_64] at he
       exact zck he hb rfl (zhP (.ext _ _ (.int _ _)) zlA)
   · cases h
 · cases h
-- strconv.Atoi
theorem zr5 {W : World} (hW : Held W) : zfv W 280 (zt1 zkJ) := by
 intro args d h
 unfold zt1 at h
 split at h
 · rename_i s
   split at h
   · rename_i h1
     cases h
     refine ⟨zbC func280 (by kernel_rfl), by simp [zip, zke, zmP], fun S w ι m vals hG hs hr => ?_⟩
     obtain ⟨a, rfl, r1⟩ := zxQ hr
     obtain rfl := r1.str_inv
     have hl : s.length ≤ 4294967281 := Nat.le_of_lt h1
     unfold zmH
     rcases ha : Lib.atoiAll s with v | _ | _
     · refine (Tryz.strconv_Atoi_ok ⟨s.toArray⟩ (Nat.le_trans hl (by decide)) v ha w).mono fun e w' he => ?_
       obtain ⟨he, hw⟩ := he
       exact zck he (by rcases hw with rfl | ⟨t, rfl⟩; exact Below.refl _ _; exact Lib.bytesWorld_below _ _ _) rfl (zhP (.ext _ _ (.int _ _)) zpv)
     · obtain ⟨g, ev, hg, hc, hev⟩ := hW.synt
       obtain rfl : g = 2 := Option.some.inj (hg.symm.trans (by kernel_rfl))
       refine (Tryz.strconv_Atoi_syntax ⟨s.toArray⟩ (Nat.le_trans hl (by decide)) ha ev w (zds hG.1 hc) hev).mono fun e w' he => ?_
       obtain ⟨N, he, _, _, hb⟩ := he
       exact zck he hb rfl (zhP (.ext _ _ (.int _ _)) zlA)
     · obtain ⟨g, ev, hg, hc, hev⟩ := hW.range
       obtain rfl : g = 3 := Option.some.inj (hg.symm.trans (by kernel_rfl))
       refine (Tryz.strconv_Atoi_range ⟨s.toArray⟩ (Nat.le_trans hl (by decide)) ha ev w (zds hG.1 hc) hev).mono fun e w' he => ?_
       obtain ⟨N, he, _, _, hb⟩ := he
       exact zck he hb rfl (zhP (.ext _ _ (.int _ _)) zlA)
   · cases h
 · cases h
end Go.Proofs.Tryz
set_option maxRecDepth 1000000
namespace Go.Proofs.Tryz
open Go Go.Ev Go.RowKit
def zvr (f : Nat) : Option (List D → Option D) := if Nat.beq f 4 then none else zmF f
noncomputable def zzo : Cfg := { P := prog, prim := zvr, byRef := zsN, fine := fun f => decide (f < 322) }
theorem zsR : dfn zzo 80 4 [] [] = some ⟨.bool true, [], []⟩ := by kernel_rfl
theorem zvA : (List.range 322).all (zvB prog) = true := by kernel_rfl
theorem zuU : zk0 prog dwB (fun f => decide (f < 322)) := zsm (l := List.range 322) (fun f h => by simpa using h) zvA
theorem zuN : zfu prog := zr0 (by kernel_rfl) (by kernel_rfl)
theorem mixed : prog.follows .mixedOrders = true := by kernel_rfl
end Go.Proofs.Tryz
set_option maxRecDepth 1000000
namespace Go.Proofs.Tryz
open Go Go.Ev Go.RowKit
theorem zkF {W : World} (hW : Held W) {f : Nat} {p : List D → Option D} (h : zmF f = some p) : zfv W f p ∨ (f = 4 ∧ p = zim) := by
 unfold zmF at h
 cases hf : zvq.find? (fun x => Nat.beq x.1 f) with
 | none => rw [hf] at h; cases h
 | some x =>
   rw [hf] at h
   obtain rfl := Option.some.inj h
   have h1 := List.mem_of_find?_eq_some hf
   have h2 : Nat.beq x.1 f = true := List.find?_some (p := fun (x : Nat × (List D → Option D)) => Nat.beq x.1 f) hf
   have h2 := Nat.eq_of_beq_eq_true h2
   subst h2
   simp only [zvq, List.mem_cons, List.not_mem_nil, or_false] at h1
   rcases h1 with rfl | rfl | rfl | rfl | rfl | rfl | rfl | rfl | rfl | rfl | rfl
   · exact .inl (zlo hW)
   · exact .inl (zjg hW)
   · exact .inl (ztX hW)
   · exact .inl (zr1 W)
   · exact .inl (zln hW)
   · exact .inl (zr5 hW)
   · exact .inl (zmD W)
   · exact .inl (zr4 hW)
   · exact .inl (zr3 W)
   · exact .inl (zkb hW)
   · exact .inr ⟨rfl, rfl⟩
theorem zqp {W : World} (hW : Held W) : zdV prog (G0 W) zzo.prim := by
 intro f p h
 have h : zvr f = some p := h
 unfold zvr at h
 split at h
 · cases h
 · rename_i hn
   rcases zkF hW h with h1 | ⟨rfl, _⟩
   · exact h1
   · exact absurd rfl hn
theorem zqo {W : World} (hW : Held W) : zfv W 4 zim := by
 intro args d h
 unfold zim at h
 split at h
 · cases h
   refine ⟨zbC func4 (by kernel_rfl), rfl, fun S w ι m vals hG hs hr => ?_⟩
   have hv : vals = #[] := by have := hr.1; exact Array.eq_empty_of_size_eq_zero (by simpa using this)
   subst hv
   refine (zsr (C := zzo) zuN mixed rfl (zsd W) (zqp hW) zuU zsR (w := w) (vals := #[]) ⟨hG.1, fun r hr => Nat.lt_of_lt_of_le hr hG.1.size⟩ ι zbS.nil).mono fun e w' he => ?_
   obtain ⟨rfl, hk, hs, hb⟩ := he
   exact ⟨_, rfl, .ext _ _ (.bool _), hk, hs, hb⟩
 · cases h
theorem zr2 {W : World} (hW : Held W) : zdV prog (G0 W) cfg.prim := by
 intro f p h
 rcases zkF hW (show zmF f = some p from h) with h1 | ⟨rfl, rfl⟩
 · exact h1
 · exact zqo hW
end Go.Proofs.Tryz
