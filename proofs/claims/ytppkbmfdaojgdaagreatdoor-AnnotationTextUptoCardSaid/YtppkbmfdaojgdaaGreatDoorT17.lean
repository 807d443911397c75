/- AnnotationText: for every annotation and string that hold together at most 1048576 values and letters, the law returns true. Condition: that bound (the Upto form). -/
import Derived.Shelf.Strings.SlTrimAscii
import Derived.KernelRfl
import Derived.Test.YtppkbmfdaojgdaaGreatDoorT9
import Derived.Test.YtppkbmfdaojgdaaGreatDoorT12
import Derived.Test.YtppkbmfdaojgdaaGreatDoorT16
set_option linter.all false
set_option maxRecDepth 100000
namespace Go.Proofs.Tryz
open Go Go.Ev Go.RowKit
theorem zfH {f : FuncId} {fn : Func} (h1 : prog.funcs[f]? = some fn) (h2 : (fn.body.isSome && fn.name != "runtime.NumGoroutine") = true) : zpS prog f := by
 simp only [Bool.and_eq_true, bne_iff_ne] at h2
 exact ⟨fn, h1, h2.1, h2.2⟩
def zqe (W : World) (f : FuncId) (p : List D → Option D) : Prop := ∀ (args : List D) (d : D), p args = some d → zpS prog f ∧ zwf d = true ∧ ∀ (S : Nat → Prop) (w : World) (ι : Ev.Loc) (m : Mem) (vals : Array Value), G0 W S w → Sim S w ι m → zgD S w ι m vals.toList args →
    Calls prog f vals w (zuC S w ι m d)
structure Held (W : World) : Prop where
 pow : Lib.TabIs prog W "internal/strconv.uint64pow10" .u64 Lib.pow10Tab
 maxLen : ∃ g m, prog.globalNamed "internal/bytealg.MaxLen" = some g ∧ W.cell? ⟨g, 0, none⟩ = some (.int .i64 m)
 synt : ∃ g v, prog.globalNamed "strconv.ErrSyntax" = some g ∧ W.cell? ⟨g, 0, none⟩ = some v ∧ (v = .nilIface ∨ ∃ te pe, v = .iface te pe)
 range : ∃ g v, prog.globalNamed "strconv.ErrRange" = some g ∧ W.cell? ⟨g, 0, none⟩ = some v ∧ (v = .nilIface ∨ ∃ te pe, v = .iface te pe)
theorem zOb {w : World} {g o : Nat} {v : Value} (h : w.cell? ⟨g, o, none⟩ = some v) : g < w.heap.size := by
 rcases Nat.lt_or_ge g w.heap.size with h1 | h1
 · exact h1
 · exfalso
   simp only [World.cell?] at h
   have : w.heap[g]? = none := Array.getElem?_eq_none h1
   simp [this] at h
theorem zkm {W w : World} (hb : Below W.heap.size W w) {g o : Nat} {v : Value} (h : W.cell? ⟨g, o, none⟩ = some v) : w.cell? ⟨g, o, none⟩ = some v := by
 rw [hb.cell (p := ⟨g, o, none⟩) (zOb h)]; exact h
theorem zFu (B : Nat) (w : World) (n : Nat) : Below B w (w.drewN n) := ⟨rfl, rfl, rfl, Nat.le_refl _, fun _ _ => rfl⟩
theorem zhN {S : Nat → Prop} {w w' : World} {ι : Ev.Loc} {m : Mem} {vs : Array Value} {ds : List D} {e : Ending} (he : e = .returned (.tuple vs)) (h : Below w.heap.size w w') (l : vs.size = ds.length) (hr : ∀ (i : Nat) (v : Value) (d : D), vs[i]? = some v → ds[i]? = some d → Rep S w' ι m v d) : zuC S w ι m (.tup ds) e w' :=
 ⟨_, he, .tup _ _ l hr, ztX h, h.size, h.block⟩
theorem zu7 {S : Nat → Prop} {w : World} {ι : Ev.Loc} {m : Mem} {a b : Value} {x y : D} (h1 : Rep S w ι m a x) (h2 : Rep S w ι m b y) : ∀ (i : Nat) (v : Value) (d : D), (#[a, b] : Array Value)[i]? = some v → [x, y][i]? = some d → Rep S w ι m v d := by
 intro i v d hv hd
 match i with
 | 0 => simp at hv hd; subst hv hd; exact h1
 | 1 => simp at hv hd; subst hv hd; exact h2
 | n + 2 => simp at hd
theorem zI4 {S : Nat → Prop} {w : World} {ι : Ev.Loc} {m : Mem} {a b c : Value} {x y z : D} (h1 : Rep S w ι m a x) (h2 : Rep S w ι m b y) (h3 : Rep S w ι m c z) : ∀ (i : Nat) (v : Value) (d : D), (#[a, b, c] : Array Value)[i]? = some v → [x, y, z][i]? = some d → Rep S w ι m v d := by
 intro i v d hv hd
 match i with
 | 0 => simp at hv hd; subst hv hd; exact h1
 | 1 => simp at hv hd; subst hv hd; exact h2
 | 2 => simp at hv hd; subst hv hd; exact h3
 | n + 3 => simp at hd
-- strings.Compare
theorem zCM (W : World) : zqe W 113 ztP := by
 intro args d h
 unfold ztP at h
 split at h
 · rename_i a b
   cases h
   refine ⟨zfH func113 (by kernel_rfl), rfl, fun S w ι m vals hG hs hr => ?_⟩
   obtain ⟨v, u, rfl, h1, h2⟩ := zId hr
   obtain rfl := h1.str_inv
   obtain rfl := h2.str_inv
   refine (Tryz.strings_Compare _ _ w).mono fun e w' he => ?_
   obtain ⟨he, rfl⟩ := he
   rw [zx8] at he
   exact zCN he (Below.refl _ _)
 · cases h
-- strconv.Itoa
theorem zJo {W : World} (hW : Held W) : zqe W 89 zHi := by
 intro args d h
 unfold zHi at h
 split at h
 · rename_i n
   split at h
   · rename_i hn
     cases h
     have hn := zGd hn
     refine ⟨zfH func89 (by kernel_rfl), rfl, fun S w ι m vals hG hs hr => ?_⟩
     obtain ⟨v, rfl, h1⟩ := zRC hr
     obtain rfl := h1.int_inv
     refine (Tryz.strconv_Itoa n hn.1 hn.2 w (Lib.tabBelow_of_tabIs hW.pow w hG.1)).mono fun e w' he => ?_
     obtain ⟨he, k, os, rfl⟩ := he
     rw [← zGb hn] at he
     exact zi7 he (Lib.below_grow _ w (Nat.le_refl _) k os)
   · cases h
 · cases h
-- strconv.FormatInt
theorem zy7 {W : World} (hW : Held W) : zqe W 46 zid := by
 intro args d h
 unfold zid at h
 split at h
 · rename_i n b
   split at h
   · rename_i hn
     cases h
     rw [Bool.and_eq_true, beq_iff_eq] at hn
     obtain ⟨hn, rfl⟩ := hn
     have hn := zGd hn
     refine ⟨zfH func46 (by kernel_rfl), rfl, fun S w ι m vals hG hs hr => ?_⟩
     obtain ⟨v, u, rfl, h1, h2⟩ := zId hr
     obtain rfl := h1.int_inv
     obtain rfl := h2.int_inv
     refine (Tryz.strconv_FormatInt_10 n hn.1 hn.2 w (Lib.tabBelow_of_tabIs hW.pow w hG.1)).mono fun e w' he => ?_
     obtain ⟨he, k, os, rfl⟩ := he
     rw [← zGb hn] at he
     exact zi7 he (Lib.below_grow _ w (Nat.le_refl _) k os)
   · cases h
 · cases h
-- strings.Join
theorem zJn (W : World) : zqe W 48 zEK := by
 intro args d h
 unfold zEK at h
 split at h
 · rename_i f rows sep
   obtain ⟨xs, hx, h2⟩ := zaa h
   obtain ⟨_, hl, h3⟩ := zaa h2
   cases h3
   have hl := zdJ hl
   simp only [Bool.and_eq_true, decide_eq_true_eq] at hl
   obtain rfl := zIb hx
   refine ⟨zfH func48 (by kernel_rfl), rfl, fun S w ι m vals hG hs hr => ?_⟩
   obtain ⟨v, u, rfl, h1, h2⟩ := zId hr
   obtain rfl := h2.str_inv
   rcases zLn h1 hs.lt with ⟨rfl, a, c, rfl⟩ | ⟨b, o, c, rfl, hb, hc, hcell⟩
   · refine (Tryz.strings_Join_none a c _ w).mono fun e w' he => ?_
     obtain ⟨he, rfl⟩ := he
     exact zi7 (by rw [he]; rfl) (Below.refl _ _)
   · have e1 : ((xs.map fun x => (⟨x.toArray⟩ : ByteArray)).map (·.data.toList)) = xs := by rw [List.map_map]; exact List.map_id _
     have := Tryz.strings_Join b o c (xs.map fun x => ⟨x.toArray⟩) ⟨sep.toArray⟩ w (fun j x hj => by
      rw [List.getElem?_map] at hj
      cases hz : xs[j]? with
      | none => rw [hz] at hj; cases hj
      | some z => rw [hz] at hj; cases hj; exact hcell j z hz) hb (by rw [List.length_map]; exact hl.2) (by rw [List.length_map]; exact hc) (by rw [e1]; exact hl.1)
     rw [List.length_map] at this
     refine this.mono fun e w' he => ?_
     obtain ⟨he, hbw⟩ := he
     rw [e1] at he
     exact zi7 he hbw
 · cases h
-- strings.ReplaceAll
theorem zxC {W : World} (hW : Held W) : zqe W 166 zkf := by
 intro args d h
 unfold zkf at h
 split at h
 · rename_i s old new
   split at h
   · rename_i hn
     cases h
     obtain ⟨h1, h2, h3⟩ := hn
     refine ⟨zfH func166 (by kernel_rfl), rfl, fun S w ι m vals hG hs hr => ?_⟩
     obtain ⟨a, b, c, rfl, r1, r2, r3⟩ := zRB hr
     obtain rfl := r1.str_inv
     obtain rfl := r2.str_inv
     obtain rfl := r3.str_inv
     obtain ⟨g, k, hg, hc⟩ := hW.maxLen
     obtain rfl : g = 1 := Option.some.inj (hg.symm.trans (by kernel_rfl))
     refine (Tryz.strings_ReplaceAll ⟨s.toArray⟩ ⟨old.toArray⟩ ⟨new.toArray⟩ k w h1 (zkm hG.1 hc) h2 h3).mono fun e w' he => ?_
     obtain ⟨he, hbw⟩ := he
     exact zi7 he hbw
   · cases h
 · cases h
-- strings.Contains
theorem zAY {W : World} (hW : Held W) : zqe W 225 zoc := by
 intro args d h
 unfold zoc at h
 split at h
 · rename_i s sub
   split at h
   · rename_i hn
     cases h
     refine ⟨zfH func225 (by kernel_rfl), rfl, fun S w ι m vals hG hs hr => ?_⟩
     obtain ⟨a, b, rfl, r1, r2⟩ := zId hr
     obtain rfl := r1.str_inv
     obtain rfl := r2.str_inv
     obtain ⟨g, k, hg, hc⟩ := hW.maxLen
     obtain rfl : g = 1 := Option.some.inj (hg.symm.trans (by kernel_rfl))
     refine (Tryz.strings_Contains ⟨s.toArray⟩ ⟨sub.toArray⟩ k w hn (zkm hG.1 hc)).mono fun e w' he => ?_
     obtain ⟨he, rfl⟩ := he
     exact zAZ he (Below.refl _ _)
   · cases h
 · cases h
-- strings.Cut
theorem zLN {W : World} (hW : Held W) : zqe W 174 zOp := by
 intro args d h
 unfold zOp at h
 split at h
 · rename_i s sep
   split at h
   · rename_i hn
     cases h
     refine ⟨zfH func174 (by kernel_rfl), rfl, fun S w ι m vals hG hs hr => ?_⟩
     obtain ⟨a, b, rfl, r1, r2⟩ := zId hr
     obtain rfl := r1.str_inv
     obtain rfl := r2.str_inv
     obtain ⟨g, k, hg, hc⟩ := hW.maxLen
     obtain rfl : g = 1 := Option.some.inj (hg.symm.trans (by kernel_rfl))
     refine (Tryz.strings_Cut ⟨s.toArray⟩ ⟨sep.toArray⟩ k w hn (zkm hG.1 hc)).mono fun e w' he => ?_
     obtain ⟨he, q, rfl⟩ := he
     exact zhN he (zFu _ _ _) rfl (zI4 (.ext _ _ (.str _)) (.ext _ _ (.str _)) (.ext _ _ (.bool _)))
   · cases h
 · cases h
-- strings.Trim
theorem zJl (W : World) : zqe W 227 zHf := by
 intro args d h
 unfold zHf at h
 split at h
 · rename_i s set
   split at h
   · rename_i hn
     cases h
     obtain ⟨h0, h1, h2, h3, h4⟩ := hn
     refine ⟨zfH func227 (by kernel_rfl), rfl, fun S w ι m vals hG hs hr => ?_⟩
     obtain ⟨a, b, rfl, r1, r2⟩ := zId hr
     obtain rfl := r1.str_inv
     obtain rfl := r2.str_inv
     have hl : lim = 4294967281 := rfl
     refine (Any.strings_Trim_laid Tryz.lays160 (by kernel_rfl) ⟨s.toArray⟩ ⟨set.toArray⟩ w (Nat.le_of_lt (Nat.lt_of_lt_of_le h1 (by decide))) h3 (ascii_of_all h4)).mono fun e w' he => ?_
     obtain ⟨he, hbw⟩ := he
     exact zi7 he hbw
   · cases h
 · cases h
-- strconv.ParseInt
theorem zBg {S : Nat → Prop} {w : World} {ι : Ev.Loc} {m : Mem} {t : TypeId} {v : Value} : Rep S w ι m (.iface t v) (zIv t false) := .iface _ _ _ (.unk _)
theorem zGi {S : Nat → Prop} {w : World} {ι : Ev.Loc} {m : Mem} {t : TypeId} : Rep S w ι m .nilIface (zIv t true) := .ext _ _ .nili
theorem zAX {W : World} (hW : Held W) : zqe W 145 (zob ztR) := by
 intro args d h
 unfold zob at h
 split at h
 · rename_i s b z
   split at h
   · rename_i hn
     cases h
     obtain ⟨h1, rfl, rfl⟩ := hn
     refine ⟨zfH func145 (by kernel_rfl), by simp [zwf, zzc, zDi], fun S w ι m vals hG hs hr => ?_⟩
     obtain ⟨a, b, c, rfl, r1, r2, r3⟩ := zRB hr
     obtain rfl := r1.str_inv
     obtain rfl := r2.int_inv
     obtain rfl := r3.int_inv
     have hl : s.length ≤ 4294967281 := Nat.le_of_lt h1
     unfold znu zi8
     rcases ha : Lib.atoiAll s with v | _ | _
     · refine (Tryz.strconv_ParseInt_10_at64_ok ⟨s.toArray⟩ (Nat.le_trans hl (by decide)) v (by rw [Lib.parseIntB_64]; exact ha) w).mono fun e w' he => ?_
       obtain ⟨he, hw⟩ := he
       exact zhN he (by rcases hw with rfl | ⟨t, rfl⟩; exact Below.refl _ _; exact Lib.bytesWorld_below _ _ _) rfl (zu7 (.ext _ _ (.int _ _)) zGi)
     · obtain ⟨g, ev, hg, hc, hev⟩ := hW.synt
       obtain rfl : g = 4 := Option.some.inj (hg.symm.trans (by kernel_rfl))
       refine (Tryz.strconv_ParseInt_10_at64_syntax ⟨s.toArray⟩ (Nat.le_trans hl (by decide)) (by rw [Lib.parseIntB_64]; exact ha) ev w (zkm hG.1 hc) hev).mono fun e w' he => ?_
       obtain ⟨N, he, _, _, hb⟩ := he
       exact zhN he hb rfl (zu7 (.ext _ _ (.int _ _)) zBg)
     · obtain ⟨g, ev, hg, hc, hev⟩ := hW.range
       obtain rfl : g = 5 := Option.some.inj (hg.symm.trans (by kernel_rfl))
       refine (Tryz.strconv_ParseInt_10_at64_range ⟨s.toArray⟩ (Nat.le_trans hl (by decide)) (by rw [Lib.parseIntB_64]; exact ha) ev w (zkm hG.1 hc) hev).mono fun e w' he => ?_
       obtain ⟨N, he, _, _, hb⟩ := he
       rw [Lib.intSat_64] at he
       exact zhN he hb rfl (zu7 (.ext _ _ (.int _ _)) zBg)
   · cases h
 · cases h
-- strconv.Atoi
theorem zJp {W : World} (hW : Held W) : zqe W 198 (zHm ztR) := by
 intro args d h
 unfold zHm at h
 split at h
 · rename_i s
   split at h
   · rename_i h1
     cases h
     refine ⟨zfH func198 (by kernel_rfl), by simp [zwf, zzc, zDi], fun S w ι m vals hG hs hr => ?_⟩
     obtain ⟨a, rfl, r1⟩ := zRC hr
     obtain rfl := r1.str_inv
     have hl : s.length ≤ 4294967281 := Nat.le_of_lt h1
     unfold zi8
     rcases ha : Lib.atoiAll s with v | _ | _
     · refine (Tryz.strconv_Atoi_ok ⟨s.toArray⟩ (Nat.le_trans hl (by decide)) v ha w).mono fun e w' he => ?_
       obtain ⟨he, hw⟩ := he
       exact zhN he (by rcases hw with rfl | ⟨t, rfl⟩; exact Below.refl _ _; exact Lib.bytesWorld_below _ _ _) rfl (zu7 (.ext _ _ (.int _ _)) zGi)
     · obtain ⟨g, ev, hg, hc, hev⟩ := hW.synt
       obtain rfl : g = 4 := Option.some.inj (hg.symm.trans (by kernel_rfl))
       refine (Tryz.strconv_Atoi_syntax ⟨s.toArray⟩ (Nat.le_trans hl (by decide)) ha ev w (zkm hG.1 hc) hev).mono fun e w' he => ?_
       obtain ⟨N, he, _, _, hb⟩ := he
       exact zhN he hb rfl (zu7 (.ext _ _ (.int _ _)) zBg)
     · obtain ⟨g, ev, hg, hc, hev⟩ := hW.range
       obtain rfl : g = 5 := Option.some.inj (hg.symm.trans (by kernel_rfl))
       refine (Tryz.strconv_Atoi_range ⟨s.toArray⟩ (Nat.le_trans hl (by decide)) ha ev w (zkm hG.1 hc) hev).mono fun e w' he => ?_
       obtain ⟨N, he, _, _, hb⟩ := he
       exact zhN he hb rfl (zu7 (.ext _ _ (.int _ _)) zBg)
   · cases h
 · cases h
end Go.Proofs.Tryz
set_option maxRecDepth 1000000
namespace Go.Proofs.Tryz
open Go Go.Ev Go.RowKit
def zNu (f : Nat) : Option (List D → Option D) := if Nat.beq f 4 then none else zCO f
noncomputable def zUt : Cfg := { P := prog, prim := zNu, byRef := zKv, fine := fun f => decide (f < 250) }
theorem zKA : dfn zUt 80 4 [] [] = some ⟨.bool true, [], []⟩ := by kernel_rfl
theorem zNQ : (List.range 250).all (zNR prog) = true := by kernel_rfl
theorem zMR : zAq prog dwB (fun f => decide (f < 250)) := zJT (l := List.range 250) (fun f h => by simpa using h) zNQ
theorem zMJ : zqd prog := zJk (by kernel_rfl) (by kernel_rfl)
theorem mixed : prog.follows .mixedOrders = true := by kernel_rfl
end Go.Proofs.Tryz
set_option maxRecDepth 1000000
namespace Go.Proofs.Tryz
open Go Go.Ev Go.RowKit
theorem zzX {W : World} (hW : Held W) {f : Nat} {p : List D → Option D} (h : zCO f = some p) : zqe W f p ∨ (f = 4 ∧ p = zxH) := by
 unfold zCO at h
 cases hf : zNt.find? (fun x => Nat.beq x.1 f) with
 | none => rw [hf] at h; cases h
 | some x =>
   rw [hf] at h
   obtain rfl := Option.some.inj h
   have h1 := List.mem_of_find?_eq_some hf
   have h2 : Nat.beq x.1 f = true := List.find?_some (p := fun (x : Nat × (List D → Option D)) => Nat.beq x.1 f) hf
   have h2 := Nat.eq_of_beq_eq_true h2
   subst h2
   simp only [zNt, List.mem_cons, List.not_mem_nil, or_false] at h1
   rcases h1 with rfl | rfl | rfl | rfl | rfl | rfl | rfl | rfl | rfl | rfl | rfl
   · exact .inl (zAY hW)
   · exact .inl (zxC hW)
   · exact .inl (zLN hW)
   · exact .inl (zJl W)
   · exact .inl (zAX hW)
   · exact .inl (zJp hW)
   · exact .inl (zCM W)
   · exact .inl (zJo hW)
   · exact .inl (zJn W)
   · exact .inl (zy7 hW)
   · exact .inr ⟨rfl, rfl⟩
theorem zHa {W : World} (hW : Held W) : zlx prog (G0 W) zUt.prim := by
 intro f p h
 have h : zNu f = some p := h
 unfold zNu at h
 split at h
 · cases h
 · rename_i hn
   rcases zzX hW h with h1 | ⟨rfl, _⟩
   · exact h1
   · exact absurd rfl hn
theorem zG9 {W : World} (hW : Held W) : zqe W 4 zxH := by
 intro args d h
 unfold zxH at h
 split at h
 · cases h
   refine ⟨zfH func4 (by kernel_rfl), rfl, fun S w ι m vals hG hs hr => ?_⟩
   have hv : vals = #[] := by have := hr.1; exact Array.eq_empty_of_size_eq_zero (by simpa using this)
   subst hv
   refine (zJ2 (C := zUt) zMJ mixed rfl (zJG W) (zHa hW) zMR zKA (w := w) (vals := #[]) ⟨hG.1, fun r hr => Nat.lt_of_lt_of_le hr hG.1.size⟩ ι zgD.nil).mono fun e w' he => ?_
   obtain ⟨rfl, hk, hs, hb⟩ := he
   exact ⟨_, rfl, .ext _ _ (.bool _), hk, hs, hb⟩
 · cases h
theorem zJm {W : World} (hW : Held W) : zlx prog (G0 W) cfg.prim := by
 intro f p h
 rcases zzX hW (show zCO f = some p from h) with h1 | ⟨rfl, rfl⟩
 · exact h1
 · exact zG9 hW
end Go.Proofs.Tryz
