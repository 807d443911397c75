/- Part of a proof. -/
import Derived.Laws.Slices
import Derived.Laws.Build
import Derived.Laws.Tables
import Derived.Laws.Append
import Derived.Test.YtaadpbhondmahaaGreatDoorT13
set_option linter.all false
namespace Go.Ev
open Go
theorem zai {a b : Bool} (h : (a && b) = true) : a = true /\ b = true := by simpa using h
theorem zQ8 {α : Type} {l : List α} {off len i : Nat} (hi : i < len) : (cut l off len)[i]? = l[off + i]? := by
 unfold cut
 split
 · rename_i h; obtain ⟨rfl, _⟩ := h; simp
 · rw [List.getElem?_take, if_pos hi, List.getElem?_drop]
theorem zuK {α : Type} {l : List α} {off len : Nat} (h : off + len <= l.length) : (cut l off len).length = len := by
 unfold cut
 split
 · rename_i h; exact h.2.symm
 · rw [List.length_take, List.length_drop]; omega
theorem znq {α : Type} {l : List α} {off len : Nat} {x : α} (h : x ∈ cut l off len) : x ∈ l := by
 unfold cut at h
 split at h
 · exact h
 · exact List.mem_of_mem_drop (List.mem_of_mem_take h)
theorem zlO {α : Type} {l : List α} {off len i : Nat} {x : α} (h : (cut l off len)[i]? = some x) : l[off + i]? = some x := by
 unfold cut at h
 split at h
 · rename_i h'; obtain ⟨rfl, _⟩ := h'; simpa using h
 · rw [List.getElem?_take] at h
   split at h
   · rwa [List.getElem?_drop] at h
   · cases h
section
variable {S : Nat -> Prop} {w : World} {ι : Loc} {m : Mem} {P : Program}
def zgH (S : Nat -> Prop) (w : World) (ι : Loc) (m : Mem) (vs : List Value) (ds : List D) : Prop :=
 vs.length = ds.length /\ (∀ (i : Nat) (v : Value) (d : D), vs[i]? = some v -> ds[i]? = some d -> Rep S w ι m v d)
theorem zgH.nil : zgH S w ι m [] [] := ⟨rfl, fun i v d h => by simp at h⟩
theorem zgH.cons {v : Value} {d : D} {vs : List Value} {ds : List D} (h : Rep S w ι m v d) (hs : zgH S w ι m vs ds) : zgH S w ι m (v :: vs) (d :: ds) := by
 refine ⟨by simp [hs.1], fun i u e hu he => ?_⟩
 cases i with
 | zero => simp only [yH, yA] at hu he; subst hu he; exact h
 | succ i => simp only [yX] at hu he; exact hs.2 i u e hu he
theorem zgH.cons_inv {v : Value} {vs : List Value} {ds : List D} (h : zgH S w ι m (v :: vs) ds) : ∃ d ds', ds = d :: ds' /\ Rep S w ι m v d /\ zgH S w ι m vs ds' := by
 cases ds with
 | nil => have := h.1; simp at this
 | cons d ds' => exact ⟨d, ds', rfl, h.2 0 v d rfl rfl, by have := h.1; simpa using this, fun i u e hu he => h.2 (i + 1) u e (by simpa using hu) (by simpa using he)⟩
theorem zgH.cons_inv' {vs : List Value} {d : D} {ds : List D} (h : zgH S w ι m vs (d :: ds)) : ∃ v vs', vs = v :: vs' /\ Rep S w ι m v d /\ zgH S w ι m vs' ds := by
 cases vs with
 | nil => have := h.1; simp at this
 | cons v vs' => exact ⟨v, vs', rfl, h.2 0 v d rfl rfl, by have := h.1; simpa using this, fun i u e hu he => h.2 (i + 1) u e (by simpa using hu) (by simpa using he)⟩
theorem zgH.get {vs : List Value} {ds : List D} (h : zgH S w ι m vs ds) {i : Nat} {d : D} (hd : ds[i]? = some d) : ∃ v, vs[i]? = some v /\ Rep S w ι m v d := by
 have hi : i < ds.length := (yW.1 hd).1
 have : i < vs.length := by rw [h.1]; exact hi
 exact ⟨vs[i], yB this, h.2 i _ d (yB this) hd⟩
theorem zgH.mono {S' : Nat -> Prop} {w' : World} {ι' : Loc} {m' : Mem} {vs : List Value} {ds : List D} (h : zgH S w ι m vs ds) (e : Ext S w ι m S' w' ι' m') : zgH S' w' ι' m' vs ds :=
 ⟨h.1, fun i v d hv hd => (h.2 i v d hv hd).ext' e⟩
theorem zgH.append {vs us : List Value} {ds es : List D} (h : zgH S w ι m vs ds) (k : zgH S w ι m us es) : zgH S w ι m (vs ++ us) (ds ++ es) := by
 refine ⟨by simp [h.1, k.1], fun i v d hv hd => ?_⟩
 rcases Nat.lt_or_ge i vs.length with hi | hi
 · rw [yn hi] at hv
   rw [yn (h.1 ▸ hi)] at hd
   exact h.2 i v d hv hd
 · rw [yv hi] at hv
   rw [yv (h.1 ▸ hi), <- h.1] at hd
   exact k.2 _ v d hv hd
theorem zgH.cut {vs : List Value} {ds : List D} (h : zgH S w ι m vs ds) (off len : Nat) : zgH S w ι m ((vs.drop off).take len) (Ev.cut ds off len) := by
 have e : Ev.cut ds off len = (ds.drop off).take len := by
  unfold Ev.cut
  split
  · rename_i h'; obtain ⟨rfl, rfl⟩ := h'; simp
  · rfl
 rw [e]
 refine ⟨by simp [h.1], fun i v d hv hd => ?_⟩
 rw [List.getElem?_take] at hv hd
 split at hv
 · rename_i hi
   rw [if_pos hi, List.getElem?_drop] at hd
   rw [List.getElem?_drop] at hv
   exact h.2 _ v d hv hd
 · cases hv
theorem Rep.aggL {v : Value} {ds : List D} (h : Rep S w ι m v (.agg ds)) : ∃ cs : Array Value, v = .agg cs /\ zgH S w ι m cs.toList ds /\ ∀ d ∈ ds, cell d = true := by
 obtain ⟨cs, rfl, l, h, hc⟩ := h.agg_inv
 exact ⟨cs, rfl, ⟨by simpa using l, fun i v d hv hd => h i v d (by simpa using hv) hd⟩, hc⟩
theorem Rep.ofAggL {vs : List Value} {ds : List D} (h : zgH S w ι m vs ds) (hc : ∀ d ∈ ds, cell d = true) : Rep S w ι m (.agg vs.toArray) (.agg ds) :=
 .agg _ _ (by simpa using h.1) (fun i v d hv hd => h.2 i v d (by simpa using hv) hd) hc
theorem znx {ds : List D} : zcl ds = true ↔ ∀ d ∈ ds, cell d = true := by
 induction ds with
 | nil => simp [zcl]
 | cons d r ih => simp [zcl, ih]
theorem zlQ {ds : List D} : zbc ds = true ↔ ∀ d ∈ ds, still d = true := by
 induction ds with
 | nil => simp [zbc]
 | cons d r ih => simp [zbc, ih]
theorem ziS {rs : List Row} : zhQ rs = true ↔ ∀ r ∈ rs, zbc r = true := by
 induction rs with
 | nil => simp [zhQ]
 | cons d r ih => simp [zhQ, ih]
theorem zs8 {n : Nat} {rs : List Row} : zrp n rs = true ↔ ∀ r ∈ rs, r.length = n := by simp [zrp]
theorem Rep.cellsL {v : Value} {d : D} (h : Rep S w ι m v d) (hc : zcl (cellsOf d) = true) : zgH S w ι m v.cells.toList (cellsOf d) := by
 rw [znx] at hc
 cases d with
 | agg cs => obtain ⟨vs, rfl, hl, _⟩ := h.aggL; exact hl
 | _ => rw [h.cells1 (hc _ (by simp [cellsOf]))]; exact .cons h .nil
theorem Rep.oneCells {v : Value} {d : D} (h : Rep S w ι m v d) (hc : zcl (cellsOf d) = true) : ∀ u ∈ v.cells.toList, u.oneCell' = true := by
 intro u hu
 have hL := h.cellsL hc
 obtain ⟨i, hi, rfl⟩ := List.mem_iff_getElem.1 hu
 have hi' : i < (cellsOf d).length := hL.1 ▸ hi
 exact (hL.2 i _ _ (yB hi) (yB hi')).oneCell ((znx.1 hc) _ (yy hi'))
theorem zAe {k : TK} {vs : List Value} {ds : List D} {d : D} (hL : zgH S w ι m vs ds) (hc : ∀ d ∈ ds, cell d = true) (h : zKi k ds = some d) :
 (k.agg = true /\ Rep S w ι m (.agg vs.toArray) d) ∨ (k.agg = false /\ ∃ v, vs = [v] /\ ds = [d] /\ Rep S w ι m v d) := by
 unfold zKi at h
 split at h
 · rename_i hk
   simp only [yA] at h; subst h
   exact .inl ⟨hk, Rep.ofAggL hL hc⟩
 · rename_i hk
   refine .inr ⟨by simpa using hk, ?_⟩
   cases ds with
   | nil => simp [only] at h
   | cons a r => cases r with
     | cons b r => simp [only] at h
     | nil =>
       simp only [only, yA] at h; subst h
       obtain ⟨v, vs', rfl, hv, hr⟩ := hL.cons_inv'
       have : vs' = [] := by have := hr.1; simpa using this
       subst this
       exact ⟨v, rfl, rfl, hv⟩
theorem zCt {t : TypeId} {ti : TI} (ht : zkZ P t = some ti) {cs : Array Value} {ds : List D} {off : Nat} {d : D} (hL : zgH S w ι m cs.toList ds) (hc : ∀ d ∈ ds, cell d = true)
 (h : part ti ds off = some d) : ∃ v, (Go.part t cs off).run P w = .ok v w /\ Rep S w ι m v d := by
 obtain ⟨i, u, z, hi, hu, hz, _, hk, hsz, _⟩ := ze8 ht
 unfold part at h
 obtain ⟨_, h1, h⟩ := zaa h
 have h1 := YF (zdA h1)
 have hcut := hL.cut off ti.size
 rcases zAe hcut (fun d hd => hc d (znq hd)) h with ⟨hagg, hr⟩ | ⟨hagg, v, hv, hd, hr⟩
 · refine ⟨_, ?_, hr⟩
   unfold Go.part
   simp only [Sem.run_bind, zpr hu, Result.andThen_ok, <- hk, hagg, if_true, zdm hi, Sem.run_pure, <- hsz]
   congr 2
   apply Array.toList_inj.1
   simp [List.take_drop]
 · refine ⟨v, ?_, hr⟩
   have hsize : ti.size = 1 := by rw [<- h1, hd]; rfl
   have hv0 : cs[off]? = some v := by
    have : ((cs.toList.drop off).take ti.size)[0]? = some v := by rw [hv]; rfl
    rw [hsize, List.getElem?_take, if_pos YJ, List.getElem?_drop] at this
    simpa using this
   unfold Go.part
   simp only [Sem.run_bind, zpr hu, Result.andThen_ok, <- hk, hagg, yF, if_false, hv0, Sem.run_pure]
theorem zDY {t : TypeId} {u : TypeDesc} (hu : P.underlying t = some u) {v : Value} {x d : D} {f : Nat} (hv : Rep S w ι m v x) (h : zHZ P f x (zka u) = some d) : ∃ u, (Instr.field t v f).run P w = .ok u w /\ Rep S w ι m u d := by
 unfold zHZ at h
 split at h
 · rename_i cs fs hku
   obtain ⟨p, hp, h⟩ := zaa h
   obtain ⟨ti, hti, h⟩ := zaa h
   obtain ⟨F, rfl, rfl⟩ := zzF hku.symm
   obtain ⟨vs, rfl, hL, hc⟩ := hv.aggL
   rw [YA] at hp
   cases hF : F.toList[f]? with
   | none => simp [hF] at hp
   | some fld =>
     simp only [hF, yf, yA] at hp
     subst hp
     obtain ⟨r, hr, hr'⟩ := zCt hti hL hc h
     refine ⟨r, ?_, hr'⟩
     have hF' : F[f]? = some fld := by simpa using hF
     simp only [Instr.field, Sem.run_bind, run_underlying hu, Result.andThen_ok, hF', asAgg, Sem.run_pure, hr]
 · cases h
theorem zF8 {t : TypeId} {v : Value} {x d : D} {f : Nat} (hv : Rep S w ι m v x) (h : zJe P t x f = some d) : ∃ u, (Instr.field t v f).run P w = .ok u w /\ Rep S w ι m u d := by
 unfold zJe at h
 obtain ⟨k, hk, h⟩ := zaa h
 obtain ⟨u, hu, rfl⟩ := zcT hk
 exact zDY hu hv h
theorem zDV {t : TypeId} {u : TypeDesc} (hu : P.underlying t = some u) {v : Value} {k : IntKind} {n : Int} {x d : D} (hv : Rep S w ι m v x) (h : zDW P n x (zka u) = some d) : ∃ u, (Instr.index t v (.int k n)).run P w = .ok u w /\ Rep S w ι m u d := by
 unfold zDW at h
 split at h
 · rename_i s hku
   obtain ⟨_, h0, h⟩ := zaa h
   obtain ⟨b, hb, h⟩ := zaa h
   have h0 := YF (zdA h0)
   obtain rfl := zvm hku.symm
   obtain rfl := hv.str_inv
   simp only [yA] at h; subst h
   refine ⟨.int .u8 b.toNat, ?_, .ext _ _ (.int _ _)⟩
   have : (⟨s.toArray⟩ : ByteArray)[n.toNat]? = some b := by
    have hlt := (yW.1 hb)
    obtain ⟨hl, hb'⟩ := hlt
    have : n.toNat < (⟨s.toArray⟩ : ByteArray).size := by rw [zoT]; exact hl
    rw [getElem?_pos (⟨s.toArray⟩ : ByteArray) n.toNat this]
    congr 1
   simp only [Instr.index, asIntOf, Sem.run_bind, Sem.run_pure, Result.andThen_ok, run_underlying hu, if_pos h0, this]
 · rename_i cs len e hku
   obtain ⟨ti, hti, h⟩ := zaa h
   obtain ⟨_, h0, h⟩ := zaa h
   obtain ⟨h0, h1⟩ := zai (zdA h0)
   have h0 := YF h0
   have h1 := YF h1
   obtain rfl := zzf hku.symm
   obtain ⟨vs, rfl, hL, hc⟩ := hv.aggL
   obtain ⟨r, hr, hr'⟩ := zCt hti hL hc h
   obtain ⟨inf, _, _, hinf, _, _, _, _, hsz, _⟩ := ze8 hti
   refine ⟨r, ?_, hr'⟩
   simp only [Instr.index, asIntOf, Sem.run_bind, Sem.run_pure, Result.andThen_ok, run_underlying hu, if_pos (And.intro h0 h1), zdm hinf, <- hsz, hr]
 · cases h
theorem zF7 {t : TypeId} {v vi : Value} {x i d : D} (hv : Rep S w ι m v x) (hi : Rep S w ι m vi i) (h : zJd P t x i = some d) : ∃ u, (Instr.index t v vi).run P w = .ok u w /\ Rep S w ι m u d := by
 unfold zJd at h
 split at h
 · rename_i k n
   obtain rfl := hi.int_inv
   obtain ⟨kt, hk, h⟩ := zaa h
   obtain ⟨u, hu, rfl⟩ := zcT hk
   exact zDV hu hv h
 · cases h
theorem zM2 {op : UnOp} {v : Value} {x d : D} (hv : Rep S w ι m v x) (h : dun op x = some d) : ∃ u, (Op.unary op v).run P w = .ok u w /\ Rep S w ι m u d := by
 unfold dun at h
 split at h
 · obtain rfl := hv.int_inv; simp only [yA] at h; subst h; exact ⟨_, rfl, .ext _ _ (.int _ _)⟩
 · obtain rfl := hv.int_inv; simp only [yA] at h; subst h; exact ⟨_, rfl, .ext _ _ (.int _ _)⟩
 · obtain rfl := hv.bool_inv; simp only [yA] at h; subst h; exact ⟨_, rfl, .ext _ _ (.bool _)⟩
 · cases h
theorem zHW {c a b : Value} {dc da db d : D} (hc : Rep S w ι m c dc) (ha : Rep S w ι m a da) (hb : Rep S w ι m b db) (h : zO9 da db dc = some d) :
 ∃ u, (do pure (if <- asBool c then a else b) : Sem Value).run P w = .ok u w /\ Rep S w ι m u d := by
 unfold zO9 at h
 split at h
 · rename_i t
   obtain rfl := hc.bool_inv
   simp only [yA] at h; subst h
   refine ⟨if t then a else b, by simp [asBool], ?_⟩
   cases t <;> simpa
 · cases h
theorem zBB {v : Value} {x d : D} {i : Nat} (hv : Rep S w ι m v x) (h : zzp i x = some d) : ∃ u, (Instr.extract v i).run P w = .ok u w /\ Rep S w ι m u d := by
 unfold zzp at h
 split at h
 · rename_i ds
   obtain ⟨cs, rfl, l, hr⟩ := hv.tup_inv
   have hi : i < ds.length := (yW.1 h).1
   have hi' : i < cs.size := l ▸ hi
   refine ⟨cs[i], ?_, hr i _ d (yp hi') h⟩
   simp [Instr.extract, yp hi']
 · cases h
theorem ztD {t : TypeId} {k : TK} (hk : kOf P t = some k) (hi : zHK k = false) (v : Value) : (Instr.makeInterface t v).run P w = .ok (.iface t v) w := by
 obtain ⟨u, hu, rfl⟩ := zcT hk
 simp only [Instr.makeInterface, Sem.run_bind, run_underlying hu, Result.andThen_ok]
 cases u <;> simp_all [zka, zHK]
end
end Go.Ev
namespace Go.Ev
open Go
section
variable {S : Nat -> Prop} {w : World} {ι : Loc} {m : Mem} {P : Program}
theorem zAE {vs : List Value} {off : Nat} {f : TypeId} {u : TypeDesc} (hu : P.underlying f = some u) (hk : (zka u).agg = false) {v : Value} (hv : vs[off]? = some v) :
 (Go.part f vs.toArray off).run P w = .ok v w := by
 unfold Go.part
 have : vs.toArray[off]? = some v := by simpa using hv
 simp only [Sem.run_bind, zpr hu, Result.andThen_ok, hk, yF, if_false, this, Sem.run_pure]
theorem zFY {t : TypeId} {u : TypeDesc} (hu : P.underlying t = some u) {a b : Value} {x y : D} {r : Bool} (ha : Rep S w ι m a x) (hb : Rep S w ι m b y) (h : zFZ x y (zka u) = some r) :
 (zka u).agg = false /\ ∀ d, (Op.equalIn (d + 1) t a b).run P w = .ok r w := by
 unfold zFZ at h
 split at h
 · rename_i c e hk
   simp only [yA] at h; subst h
   obtain rfl := ha.bool_inv
   obtain rfl := hb.bool_inv
   obtain rfl := zHc hk.symm
   exact ⟨rfl, fun d => run_equalIn_bool w d t c e hu⟩
 · rename_i j c k e k' hk
   obtain rfl := ha.int_inv
   obtain rfl := hb.int_inv
   obtain rfl := zLB hk.symm
   split at h
   · rename_i hjk; subst hjk
     simp only [yA] at h; subst h
     exact ⟨rfl, fun d => by simp [Op.equalIn, run_underlying hu]⟩
   · cases h
 · rename_i c e hk
   simp only [yA] at h; subst h
   obtain rfl := ha.str_inv
   obtain rfl := hb.str_inv
   obtain rfl := zvm hk.symm
   exact ⟨rfl, fun d => by rw [run_equalIn_string w d t _ _ hu, zsB, zsB]⟩
 · cases h
theorem zDP {fs : List Field} {vs us : List Value} {xs ys : List D} {r : Bool} {d : Nat} {pre pre' : List Value} (hx : zgH S w ι m vs xs) (hy : zgH S w ι m us ys)
 (hl : pre.length = pre'.length) (hf : ∀ p ∈ fs.zipIdx pre.length, p.1.name ≠ "_" /\ p.1.offset = p.2)
 (h : zjT P (fs.map fun f => (f.type, f.offset)) xs ys = some r) : (Op.eqFields (d + 1) (pre ++ vs).toArray (pre' ++ us).toArray fs).run P w = .ok r w := by
 induction fs generalizing vs us xs ys r pre pre' with
 | nil =>
   cases xs with
   | nil => cases ys with
     | nil => simp only [yr, zjT, yA] at h; subst h; simp [Op.eqFields]
     | cons y ys => simp [zjT] at h
   | cons x xs => simp [zjT] at h
 | cons f fs ih =>
   cases xs with
   | nil => simp [zjT] at h
   | cons x xs => cases ys with
     | nil => simp [zjT] at h
     | cons y ys =>
       simp only [yR, zjT] at h
       obtain ⟨a, h1, h2⟩ := zaa h
       clear h
       obtain ⟨k, hk, h1⟩ := zaa h1
       obtain ⟨b, hb, h2⟩ := zaa h2
       obtain ⟨u, hu, rfl⟩ := zcT hk
       simp only [yA] at h2; subst h2
       obtain ⟨v, vs, rfl, hv, hvs⟩ := hx.cons_inv'
       obtain ⟨v', us, rfl, hv', hus⟩ := hy.cons_inv'
       obtain ⟨hag, heq⟩ := zFY hu hv hv' h1
       obtain ⟨hn, ho⟩ := hf (f, pre.length) (by simp [List.zipIdx_cons])
       simp only at hn ho
       have e1 : (Go.part f.type (pre ++ v :: vs).toArray f.offset).run P w = .ok v w := by
        exact zAE hu hag (by rw [ho]; simp)
       have e2 : (Go.part f.type (pre' ++ v' :: us).toArray f.offset).run P w = .ok v' w := by
        exact zAE hu hag (by rw [ho, hl]; simp)
       simp only [Op.eqFields, if_pos hn, Sem.run_bind, e1, Result.andThen_ok, e2, heq]
       cases a with
       | false => simp
       | true =>
         have := ih (pre := pre ++ [v]) (pre' := pre' ++ [v']) (r := b) hvs hus (by simp [hl]) (fun p hp => hf p (by
          rw [List.zipIdx_cons]
          exact yU _ (by simpa using hp))) hb
         simpa using this
theorem zKv {t : TypeId} (h : zKw P t = true) : ∃ fs, P.underlying t = some (.struct fs) /\ P.stoodInHeld t = false /\ P.eqGuardType P.depth t = false /\ ∀ p ∈ fs.toList.zipIdx, p.1.name ≠ "_" /\ p.1.offset = p.2 := by
 unfold zKw at h
 split at h
 · rename_i fs hu
   simp only [yK, Bool.not_eq_true', yl, bne_iff_ne, beq_iff_eq] at h
   exact ⟨fs, hu, h.1.1, h.1.2, fun p hp => h.2 p hp⟩
 · cases h
theorem zHP {op : BinOp} {t : TypeId} {x y : Operand} (h : (zkj x || zkj y) = true) : (eqGuard op t x y .nilIface .nilIface).run P w = .ok () w := by
 cases op <;> cases x <;> cases y <;> first | rfl | cases h
theorem zc6 {op : BinOp} {t : TypeId} {x y : Operand} {a b : Value} (h : ¬(a = .nilIface /\ b = .nilIface)) (h' : ∀ xs ys, ¬ (a = .agg xs /\ b = .agg ys)) : (eqGuard op t x y a b).run P w = .ok () w := by
 cases op <;> first
  | rfl
  | (simp only [eqGuard, ye, yF, if_false]
     split
     · exact absurd ⟨rfl, rfl⟩ h
     · exact absurd ⟨rfl, rfl⟩ (h' _ _)
     · rfl)
theorem zk3 {t : TypeId} {a b : Value} {r : Bool} (h1 : binOp .eql t a b = (do pure (.bool (<- Op.equal t a b)))) (h2 : binOp .neq t a b = (do pure (.bool (!(<- Op.equal t a b))))) (h : (Op.equal t a b).run P w = .ok r w) :
 (binOp .eql t a b).run P w = .ok (.bool r) w /\ (binOp .neq t a b).run P w = .ok (.bool !r) w := by
 rw [h1, h2]
 simp [h]
theorem zZt {t e : TypeId} (hu : P.underlying t = some (.pointer e)) (d : Nat) : (Op.equalIn (d + 1) t (.pointer none) (.pointer none)).run P w = .ok true w := by
 simp [Op.equalIn, run_underlying hu]
theorem z1K {t e : TypeId} (hu : P.underlying t = some (.pointer e)) (d : Nat) (a : Addr) : (Op.equalIn (d + 1) t (.pointer (some a)) (.pointer none)).run P w = .ok false w := by
 simp [Op.equalIn, run_underlying hu]
theorem z1L {t e : TypeId} (hu : P.underlying t = some (.pointer e)) (d : Nat) (a : Addr) : (Op.equalIn (d + 1) t (.pointer none) (.pointer (some a))).run P w = .ok false w := by
 simp [Op.equalIn, run_underlying hu]
theorem zTI {t e : TypeId} (hu : P.underlying t = some (.slice e)) (d : Nat) (a : Option Addr) (n c : Nat) : (Op.equalIn (d + 1) t (.slice none 0 0) (.slice a n c)).run P w = .ok a.isNone w := by
 simp [Op.equalIn, run_underlying hu]
theorem zTJ {t e : TypeId} (hu : P.underlying t = some (.slice e)) (d : Nat) (a : Addr) (n c : Nat) : (Op.equalIn (d + 1) t (.slice (some a) n c) (.slice none 0 0)).run P w = .ok false w := by
 simp [Op.equalIn, run_underlying hu]
theorem z1M {t : TypeId} {ms : Array (String × TypeId)} (hu : P.underlying t = some (.interface ms)) (d : Nat) : (Op.equalIn (d + 1) t .nilIface .nilIface).run P w = .ok true w := by
 simp [Op.equalIn, run_underlying hu]
theorem z1O {t : TypeId} {ms : Array (String × TypeId)} (hu : P.underlying t = some (.interface ms)) (d : Nat) (t' : TypeId) (v : Value) : (Op.equalIn (d + 1) t (.iface t' v) .nilIface).run P w = .ok false w := by
 simp [Op.equalIn, run_underlying hu]
theorem z1N {t : TypeId} {ms : Array (String × TypeId)} (hu : P.underlying t = some (.interface ms)) (d : Nat) (t' : TypeId) (v : Value) : (Op.equalIn (d + 1) t .nilIface (.iface t' v)).run P w = .ok false w := by
 simp [Op.equalIn, run_underlying hu]
theorem zKH {t : TypeId} {u : TypeDesc} (hu : P.underlying t = some u) {xo yo : Operand} {a b : Value} {x y : D} {r : Bool} (ha : Rep S w ι m a x) (hb : Rep S w ι m b y) (h : zQZ (zkj xo || zkj yo) x y (zka u) = some r) :
 (∀ op, (eqGuard op t xo yo a b).run P w = .ok () w) /\ (binOp .eql t a b).run P w = .ok (.bool r) w /\ (binOp .neq t a b).run P w = .ok (.bool !r) w := by
 have hd : Op.maxDepth = 9999 + 1 := rfl
 unfold zQZ at h
 split at h
 · rename_i c e hk
   simp only [yA] at h; subst h
   obtain rfl := ha.bool_inv
   obtain rfl := hb.bool_inv
   obtain rfl := zHc hk.symm
   exact ⟨fun op => zc6 (by simp) (by simp), zk3 rfl rfl (by rw [Op.equal, hd]; exact run_equalIn_bool w _ t c e hu)⟩
 · rename_i hk
   simp only [yA] at h; subst h
   obtain rfl := ha.nilp_inv
   obtain rfl := hb.nilp_inv
   obtain ⟨e, rfl⟩ := zLA hk.symm
   exact ⟨fun op => zc6 (by simp) (by simp), zk3 rfl rfl (by rw [Op.equal, hd]; exact zZt hu _)⟩
 · rename_i hk
   simp only [yA] at h; subst h
   obtain rfl := hb.nilp_inv
   obtain ⟨e, rfl⟩ := zLA hk.symm
   cases ha with
   | ext _ _ h => cases h
   | ptr _ _ _ _ a => exact ⟨fun op => zc6 (by simp) (by simp), zk3 rfl rfl (by rw [Op.equal, hd]; exact z1K hu _ _)⟩
 · rename_i hk
   simp only [yA] at h; subst h
   obtain rfl := ha.nilp_inv
   obtain ⟨e, rfl⟩ := zLA hk.symm
   cases hb with
   | ext _ _ h => cases h
   | ptr _ _ _ _ a => exact ⟨fun op => zc6 (by simp) (by simp), zk3 rfl rfl (by rw [Op.equal, hd]; exact z1L hu _ _)⟩
 · rename_i e hk
   simp only [yA] at h; subst h
   cases ha.sl_inv with
   | esl _ _ hf => exact absurd rfl hf
   | sl _ _ _ _ _ _ _ hf => exact absurd rfl hf
   | nilsl =>
     cases hb.sl_inv with
     | esl _ _ hf => exact absurd rfl hf
     | sl _ _ _ _ _ _ _ hf => exact absurd rfl hf
     | nilsl =>
       obtain rfl := zf8 hk.symm
       exact ⟨fun op => zc6 (by simp) (by simp), zk3 rfl rfl (by rw [Op.equal, hd]; exact zTI hu _ _ _ _)⟩
 · rename_i e hk
   simp only [yA] at h; subst h
   cases ha.sl_inv with
   | esl _ _ hf => exact absurd rfl hf
   | sl _ _ _ _ _ _ _ hf => exact absurd rfl hf
   | nilsl =>
     cases hb.sl_inv with
     | esl =>
       obtain rfl := zf8 hk.symm
       exact ⟨fun op => zc6 (by simp) (by simp), zk3 rfl rfl (by rw [Op.equal, hd]; exact zTI hu _ _ _ _)⟩
     | sl =>
       obtain rfl := zf8 hk.symm
       exact ⟨fun op => zc6 (by simp) (by simp), zk3 rfl rfl (by rw [Op.equal, hd]; exact zTI hu _ _ _ _)⟩
 · rename_i e hk
   simp only [yA] at h; subst h
   cases ha.sl_inv with
   | esl _ _ hf => exact absurd rfl hf
   | sl _ _ _ _ _ _ _ hf => exact absurd rfl hf
   | nilsl =>
     cases hb.sl_inv with
     | esl =>
       obtain rfl := zf8 hk.symm
       exact ⟨fun op => zc6 (by simp) (by simp), zk3 rfl rfl (by rw [Op.equal, hd]; exact zTI hu _ _ _ _)⟩
     | sl =>
       obtain rfl := zf8 hk.symm
       exact ⟨fun op => zc6 (by simp) (by simp), zk3 rfl rfl (by rw [Op.equal, hd]; exact zTI hu _ _ _ _)⟩
 · rename_i e hk
   simp only [yA] at h; subst h
   cases hb.sl_inv with
   | esl _ _ hf => exact absurd rfl hf
   | sl _ _ _ _ _ _ _ hf => exact absurd rfl hf
   | nilsl =>
     cases ha.sl_inv with
     | esl =>
       obtain rfl := zf8 hk.symm
       exact ⟨fun op => zc6 (by simp) (by simp), zk3 rfl rfl (by rw [Op.equal, hd]; exact zTJ hu _ _ _ _)⟩
     | sl =>
       obtain rfl := zf8 hk.symm
       exact ⟨fun op => zc6 (by simp) (by simp), zk3 rfl rfl (by rw [Op.equal, hd]; exact zTJ hu _ _ _ _)⟩
 · rename_i e hk
   simp only [yA] at h; subst h
   cases hb.sl_inv with
   | esl _ _ hf => exact absurd rfl hf
   | sl _ _ _ _ _ _ _ hf => exact absurd rfl hf
   | nilsl =>
     cases ha.sl_inv with
     | esl =>
       obtain rfl := zf8 hk.symm
       exact ⟨fun op => zc6 (by simp) (by simp), zk3 rfl rfl (by rw [Op.equal, hd]; exact zTJ hu _ _ _ _)⟩
     | sl =>
       obtain rfl := zf8 hk.symm
       exact ⟨fun op => zc6 (by simp) (by simp), zk3 rfl rfl (by rw [Op.equal, hd]; exact zTJ hu _ _ _ _)⟩
 · rename_i e hk
   simp only [yA] at h; subst h
   cases hb.sl_inv with
   | esl _ _ hf => exact absurd rfl hf
   | sl _ _ _ _ _ _ _ hf => exact absurd rfl hf
   | nilsl =>
     cases ha with
     | ext _ _ ha => cases ha
     | own =>
       obtain rfl := zf8 hk.symm
       exact ⟨fun op => zc6 (by simp) (by simp), zk3 rfl rfl (by rw [Op.equal, hd]; exact zTJ hu _ _ _ _)⟩
 · rename_i hk
   split at h
   · rename_i hc
     simp only [yA] at h; subst h
     obtain rfl := ha.nili_inv
     obtain rfl := hb.nili_inv
     obtain ⟨ms, rfl⟩ := zC8 hk.symm
     exact ⟨fun op => zHP hc, zk3 rfl rfl (by rw [Op.equal, hd]; exact z1M hu _)⟩
   · cases h
 · rename_i hk
   simp only [yA] at h; subst h
   obtain ⟨p, rfl, _⟩ := ha.iface_inv
   obtain rfl := hb.nili_inv
   obtain ⟨ms, rfl⟩ := zC8 hk.symm
   exact ⟨fun op => zc6 (by simp) (by simp), zk3 rfl rfl (by rw [Op.equal, hd]; exact z1O hu _ _ _)⟩
 · rename_i hk
   simp only [yA] at h; subst h
   obtain ⟨p, rfl, _⟩ := hb.iface_inv
   obtain rfl := ha.nili_inv
   obtain ⟨ms, rfl⟩ := zC8 hk.symm
   exact ⟨fun op => zc6 (by simp) (by simp), zk3 rfl rfl (by rw [Op.equal, hd]; exact z1N hu _ _ _)⟩
 · cases h
theorem zF9 {t : TypeId} {xo yo : Operand} {a b : Value} {x y : D} {r : Bool} (ha : Rep S w ι m a x) (hb : Rep S w ι m b y) (h : deq P t (zkj xo || zkj yo) x y = some r) :
 (∀ op, (eqGuard op t xo yo a b).run P w = .ok () w) /\ (binOp .eql t a b).run P w = .ok (.bool r) w /\ (binOp .neq t a b).run P w = .ok (.bool !r) w := by
 have hd : Op.maxDepth = 9998 + 1 + 1 := rfl
 unfold deq at h
 split at h
 · rename_i xs ys
   obtain ⟨_, h1, h2⟩ := zaa h
   clear h
   obtain ⟨k, hk, h3⟩ := zaa h2
   clear h2
   obtain ⟨fs, hu, hst, hg, hall⟩ := zKv (zdA h1)
   obtain ⟨u, hu', rfl⟩ := zcT hk
   rw [hu] at hu'
   obtain rfl := yO hu'
   simp only [zka, zWG] at h3
   obtain ⟨vs, rfl, hx, _⟩ := ha.aggL
   obtain ⟨us, rfl, hy, _⟩ := hb.aggL
   have hfo : P.fieldsOf t = fs := by simp [Program.fieldsOf, hu]
   have := zDP (P := P) (d := 9998) (pre := []) (pre' := []) hx hy rfl (by simpa using hall) h3
   refine ⟨fun op => run_eqGuard_agg w op t xo yo vs us hg, zk3 rfl rfl ?_⟩
   rw [Op.equal, hd, run_equalIn_struct w _ t vs us (by rw [hfo]; exact hu) hst, hfo]
   simpa using this
 · obtain ⟨k, hk, h1⟩ := zaa h
   obtain ⟨u, hu, rfl⟩ := zcT hk
   exact zKH hu ha hb h1
theorem zKG {op : BinOp} {t : TypeId} {xo yo : Operand} {a b : Value} {x y d : D} (ha : Rep S w ι m a x) (hb : Rep S w ι m b y) (h : zPV P t (zkj xo || zkj yo) x y op = some d) :
 ∃ v, (do eqGuard op t xo yo a b; binOp op t a b : Sem Value).run P w = .ok v w /\ Rep S w ι m v d := by
 unfold zPV at h
 split at h
 · obtain ⟨r, hr, h1⟩ := zaa h
   simp only [yA] at h1; subst h1
   obtain ⟨h1, h2, _⟩ := zF9 (P := P) (xo := xo) (yo := yo) ha hb hr
   exact ⟨_, by simp only [Sem.run_bind, h1, Result.andThen_ok, h2], .ext _ _ (.bool _)⟩
 · obtain ⟨r, hr, h1⟩ := zaa h
   simp only [yA] at h1; subst h1
   obtain ⟨h1, _, h2⟩ := zF9 (P := P) (xo := xo) (yo := yo) ha hb hr
   exact ⟨_, by simp only [Sem.run_bind, h1, Result.andThen_ok, h2], .ext _ _ (.bool _)⟩
 · cases h
theorem zKM {op : BinOp} {t : TypeId} {xo yo : Operand} {a b : Value} {x y d : D} (ha : Rep S w ι m a x) (hb : Rep S w ι m b y) (h : zP0 P op t (zkj xo || zkj yo) x y = some d) :
 ∃ v, (do eqGuard op t xo yo a b; binOp op t a b : Sem Value).run P w = .ok v w /\ Rep S w ι m v d := by
 unfold zP0 at h
 split at h
 · obtain rfl := ha.int_inv
   obtain rfl := hb.int_inv
   obtain ⟨v, h1, h2⟩ := zHY (S := S) (w := w) (ι := ι) (m := m) P (t := t) h
   exact ⟨v, by simp only [Sem.run_bind, zMM, Result.andThen_ok, h1], h2⟩
 · obtain rfl := ha.str_inv
   obtain rfl := hb.str_inv
   obtain ⟨v, h1, h2⟩ := zKz (S := S) (w := w) (ι := ι) (m := m) P (t := t) h
   exact ⟨v, by simp only [Sem.run_bind, zML, Result.andThen_ok, h1], h2⟩
 · exact zKG ha hb h
end
end Go.Ev
namespace Go.Ev
open Go
def zPR : Value -> Bool
 | .agg _ => true
 | _ => false
structure zry (P : Program) : Prop where
 fields : ∀ t fs, t < P.types.size -> P.underlying t = some (.struct fs) -> ∀ f ∈ fs.toList, (P.info? f.type).isSome = true
 zero : ∀ t i u z, t < P.types.size -> P.info? t = some i -> P.underlying t = some u -> i.zero = some z -> zPR z = (zka u).agg
theorem zL8 {α : Type} (l : List α) (off : Nat) (new : List α) (h : off + new.length <= l.length) : (put l off new).length = l.length := by
 simp [put]; omega
theorem zDt {α : Type} (l : List α) (off : Nat) (new : List α) (h : off + new.length <= l.length) (i : Nat) : (put l off new)[i]? = if i < off then l[i]? else if i < off + new.length then new[i - off]? else l[i]? := by
 unfold put
 have h1 : (l.take off).length = off := by simp; omega
 split
 · rename_i hi
   rw [yn YJ, List.getElem?_take, if_pos hi]
 · rename_i hi
   rw [yv YJ, h1]
   split
   · rename_i h2
     rw [yn YJ]
   · rename_i h2
     rw [yv YJ, List.getElem?_drop]
     congr 1; omega
theorem zFR (off : Nat) : ∀ (l : List Value) (k : Nat) (cs : Array Value), ((l.zipIdx k).foldl (fun cs p => cs.setIfInBounds (off + p.2) p.1) cs).size = cs.size /\
 ∀ i, ((l.zipIdx k).foldl (fun cs p => cs.setIfInBounds (off + p.2) p.1) cs)[i]? = if off + k <= i /\ i < off + k + l.length /\ i < cs.size then l[i - (off + k)]? else cs[i]?
 | [], k, cs => ⟨rfl, fun i => by
  rw [if_neg (by simp; omega)]; rfl⟩
 | v :: l, k, cs => by
     obtain ⟨h1, h2⟩ := zFR off l (k + 1) (cs.setIfInBounds (off + k) v)
     simp only [List.zipIdx_cons, List.foldl_cons]
     refine ⟨by rw [h1]; simp, fun i => ?_⟩
     rw [h2]
     simp only [Array.size_setIfInBounds]
     by_cases e : off + k = i
     · subst e
       rw [if_neg YJ]
       by_cases hlt : off + k < cs.size
       · rw [if_pos (by simp; omega)]
         simp [hlt]
       · rw [if_neg YJ]
         simp [hlt]
     · rw [Array.getElem?_setIfInBounds_ne e]
       by_cases hc : off + (k + 1) <= i /\ i < off + (k + 1) + l.length /\ i < cs.size
       · rw [if_pos hc, if_pos (by simp; omega)]
         have : i - (off + k) = (i - (off + (k + 1))) + 1 := by omega
         rw [this, yX]
       · rw [if_neg hc, if_neg (by simp; omega)]
theorem zO1 (off : Nat) (l : List Value) (cs : Array Value) (h : off + l.length <= cs.size) : l.zipIdx.foldl (fun cs p => cs.setIfInBounds (off + p.2) p.1) cs = (put cs.toList off l).toArray := by
 obtain ⟨h1, h2⟩ := zFR off l 0 cs
 apply Array.ext_getElem?
 intro i
 rw [h2]
 simp only [Nat.add_zero, yd]
 rw [zDt _ _ _ (by simpa using h)]
 by_cases hi : i < off
 · rw [if_neg YJ, if_pos hi]; simp
 · rw [if_neg hi]
   by_cases hj : i < off + l.length
   · rw [if_pos YJ, if_pos hj]
   · rw [if_neg YJ, if_neg hj]; simp
section
variable {S : Nat -> Prop} {w : World} {ι : Loc} {m : Mem} {P : Program}
theorem zgH.take {vs : List Value} {ds : List D} (h : zgH S w ι m vs ds) (n : Nat) : zgH S w ι m (vs.take n) (ds.take n) := by
 refine ⟨by simp [h.1], fun i v d hv hd => ?_⟩
 rw [List.getElem?_take] at hv hd
 split at hv
 · rename_i hi; rw [if_pos hi] at hd; exact h.2 i v d hv hd
 · cases hv
theorem zgH.drop {vs : List Value} {ds : List D} (h : zgH S w ι m vs ds) (n : Nat) : zgH S w ι m (vs.drop n) (ds.drop n) := by
 refine ⟨by simp [h.1], fun i v d hv hd => ?_⟩
 rw [List.getElem?_drop] at hv hd
 exact h.2 _ v d hv hd
theorem zgH.put {vs us : List Value} {ds es : List D} (h : zgH S w ι m vs ds) (k : zgH S w ι m us es) (off : Nat) : zgH S w ι m (Ev.put vs off us) (Ev.put ds off es) := by
 unfold Ev.put
 rw [k.1]
 exact (h.take off).append (k.append (h.drop _))
theorem zQs {α : Type} {l new : List α} {off : Nat} {x : α} (h : x ∈ put l off new) : x ∈ l ∨ x ∈ new := by
 unfold put at h
 rcases yu.1 h with h | h
 · exact .inl (List.mem_of_mem_take h)
 · rcases yu.1 h with h | h
   · exact .inr h
   · exact .inl (List.mem_of_mem_drop h)
inductive zJw (S : Nat -> Prop) (w : World) (ι : Loc) (m : Mem) : List (Nat × Value) -> List (Nat × D) -> Prop where
 | nil : zJw S w ι m [] []
 | cons {p : Nat × Value} {q : Nat × D} {ps : List (Nat × Value)} {qs : List (Nat × D)} (h : p.1 = q.1 /\ Rep S w ι m p.2 q.2) (hs : zJw S w ι m ps qs) : zJw S w ι m (p :: ps) (q :: qs)
theorem zxt {place place' : Nat -> Option (Nat × Nat)} (hp : ∀ i q, place i = some q -> place' i = some q) {ps : List (Nat × Value)} {qs : List (Nat × D)} (hr : zJw S w ι m ps qs) {vs : List Value} {ds l : List D} (hL : zgH S w ι m vs ds)
 (hc : ∀ d ∈ ds, cell d = true) (h : zkk place ds qs = some l) : ∃ us : List Value, Instr.fill place' vs.toArray ps = some us.toArray /\ zgH S w ι m us l /\ ∀ d ∈ l, cell d = true := by
 induction hr generalizing vs ds with
 | nil => simp only [zkk, yA] at h; subst h; exact ⟨vs, rfl, hL, hc⟩
 | @cons p q ps qs hpq _ ih =>
   obtain ⟨i, v⟩ := p
   obtain ⟨j, d⟩ := q
   obtain ⟨rfl, hv⟩ := hpq
   simp only [zkk] at h
   obtain ⟨⟨off, size⟩, hq, h1⟩ := zaa h
   clear h
   obtain ⟨_, hg, h2⟩ := zaa h1
   clear h1
   obtain ⟨hg, hg3⟩ := zai (zdA hg)
   obtain ⟨hg1, hg2⟩ := zai hg
   have hg1 := YF hg1
   have hg2 := YF hg2
   simp only at hg1 hg2
   have hcv := hv.cellsL hg3
   have hsz : v.cells.size = size := by have := hcv.1; simp only [Array.length_toList] at this; omega
   have hoff : off + v.cells.toList.length <= vs.length := by rw [hL.1]; simp only [Array.length_toList]; omega
   obtain ⟨us, h3, h4, h5⟩ := ih (hL.put hcv off) (fun x hx => (zQs hx).elim (hc x) ((znx.1 hg3) x)) h2
   refine ⟨us, ?_, h4, h5⟩
   rw [Instr.fill, hp _ _ hq]
   simp only
   rw [if_neg (by simp only [Bool.or_eq_true, YG, List.size_toArray]; simp only [Array.length_toList] at hoff; omega)]
   rw [<- h3]
   congr 1
   rw [<- Array.foldl_toList, Array.toList_zipIdx]
   have := zO1 off v.cells.toList vs.toArray (by simpa using hoff)
   simpa using this
theorem zn9 {t : TypeId} {ti : TI} (h : zkZ P t = some ti) : ∃ (i : TypeInfo) (z : Value), P.info? t = some i /\ i.zero = some z /\ zgH S w ι m z.cells.toList ti.zero /\ (∀ (n : Nat) (v : Value) (d : D), z.cells.toList[n]? = some v -> ti.zero[n]? = some d -> zlA S w v d) /\
 (∀ d ∈ ti.zero, cell d = true) /\ ti.size = i.size /\ ti.bytes = i.bytes := by
 obtain ⟨i, u, z, hi, _, hz, hcs, _, hs, hb⟩ := ze8 h
 obtain ⟨h1, h2, h3, _⟩ := zAa S w hcs
 exact ⟨i, z, hi, hz, ⟨h1, fun n v d hv hd => .ext _ _ (h2 n v d hv hd)⟩, h2, h3, hs, hb⟩
theorem zHu (hP : zry P) {t : TypeId} (hlt : t < P.types.size) {fs : Array Field} (hu : P.underlying t = some (.struct fs)) : ∃ ps : List (Nat × Nat), fs.toList.mapM (fun f => (P.info? f.type).map fun i => (f.offset, i.size)) = some ps /\
 ∀ i q, zlh P (fs.toList.map fun f => (f.type, f.offset)) i = some q -> ps.toArray[i]? = some q := by
 have hall := hP.fields t fs hlt hu
 generalize fs.toList = l at *
 clear hu
 induction l with
 | nil => exact ⟨[], rfl, fun i q h => by simp [zlh, bnd] at h⟩
 | cons f l ih =>
   obtain ⟨ps, h1, h2⟩ := ih fun f hf => hall f (yU _ hf)
   obtain ⟨i, hi⟩ := Option.isSome_iff_exists.1 (hall f yQ)
   refine ⟨(f.offset, i.size) :: ps, by simp [List.mapM_cons, hi, h1], fun n q h => ?_⟩
   cases n with
   | zero =>
     simp only [zlh, yR, yH, zad] at h
     obtain ⟨ti, hti, h⟩ := zaa h
     obtain ⟨i', _, _, hi', _, _, _, _, hs, _⟩ := ze8 hti
     rw [hi] at hi'
     obtain rfl := yO hi'
     simp only [yA] at h
     simp [<- h, hs]
   | succ n =>
     have := h2 n q (by simpa [zlh] using h)
     simpa using this
theorem zGd (hP : zry P) {t : TypeId} {ps : Array (Nat × Value)} {qs : List (Nat × D)} {d : D} (hr : zJw S w ι m ps.toList qs) (h : zJi P t qs = some d) : ∃ u, (Instr.build t ps).run P w = .ok u w /\ Rep S w ι m u d := by
 unfold zJi at h
 obtain ⟨ti, hti, h1⟩ := zaa h
 clear h
 obtain ⟨i, u, z, hi, hu, hz, _, hk, hs, _⟩ := ze8 hti
 obtain ⟨i', z', hi', hz', hL, _, hc, _⟩ := zn9 (S := S) (w := w) (ι := ι) (m := m) hti
 rw [hi] at hi'
 obtain rfl := yO hi'
 rw [hz] at hz'
 obtain rfl := yO hz'
 rw [hk] at h1
 unfold zH4 at h1
 split at h1
 · rename_i fs hku
   obtain ⟨F, rfl, rfl⟩ := zzF hku.symm
   obtain ⟨l, hl, h2⟩ := zaa h1
   simp only [yA] at h2; subst h2
   obtain ⟨pl, hpl, hpl'⟩ := zHu hP (zHd hti).1 hu
   obtain ⟨us, h3, h4, h5⟩ := zxt hpl' hr hL hc hl
   refine ⟨_, run_build w t ps us.toArray ?_, Rep.ofAggL h4 h5⟩
   simp only [Program.built, hi, hu, hz, hpl]
   rw [Array.toArray_toList] at h3
   exact h3
 · rename_i n e hku
   obtain rfl := zzf hku.symm
   obtain ⟨te, hte, h2⟩ := zaa h1
   obtain ⟨l, hl, h3⟩ := zaa h2
   simp only [yA] at h3; subst h3
   obtain ⟨ie, _, _, hie, _, _, _, _, hse, _⟩ := ze8 hte
   obtain ⟨us, h3, h4, h5⟩ := zxt (place' := fun i => some (i * ie.size, ie.size)) (fun i q hq => by rw [<- hq, <- hse]) hr hL hc hl
   refine ⟨_, run_build w t ps us.toArray ?_, Rep.ofAggL h4 h5⟩
   simp only [Program.built, hi, hu, hz, hie]
   simpa using h3
 · cases h1
theorem zKB {v : Value} {x d : D} (hv : Rep S w ι m v x) (h : zWC x = some d) : d = x /\ ((∃ a, v = .pointer (some a)) ∨ ∃ f xs ys, v = .func (.func f) xs ys) := by
 unfold zWC at h
 split at h <;> cases h
 · cases hv with
   | ext _ _ h => cases h
   | ptr => exact ⟨rfl, .inl ⟨_, rfl⟩⟩
 · cases hv with
   | ext _ _ h => cases h
   | eptr => exact ⟨rfl, .inl ⟨_, rfl⟩⟩
 · obtain ⟨vf, vc, rfl, _⟩ := hv.fn_inv; exact ⟨rfl, .inr ⟨_, _, _, rfl⟩⟩
theorem zKC {a b : Value} {x y d : D} (ha : Rep S w ι m a x) (hb : Rep S w ι m b y) (h : zZu x y = some d) : ∃ u, (Builtin.min2 a b).run P w = .ok u w /\ Rep S w ι m u d := by
 unfold zZu at h
 split at h
 · obtain rfl := ha.int_inv
   obtain rfl := hb.int_inv
   split at h
   · rename_i hk; subst hk
     simp only [yA] at h; subst h
     exact ⟨_, rfl, .ext _ _ (.int _ _)⟩
   · cases h
 · cases h
theorem zKD {a b : Value} {x y d : D} (ha : Rep S w ι m a x) (hb : Rep S w ι m b y) (h : zWD x y = some d) : ∃ u, (Builtin.max2 a b).run P w = .ok u w /\ Rep S w ι m u d := by
 unfold zWD at h
 split at h
 · obtain rfl := ha.int_inv
   obtain rfl := hb.int_inv
   split at h
   · rename_i hk; subst hk
     simp only [yA] at h; subst h
     exact ⟨_, rfl, .ext _ _ (.int _ _)⟩
   · cases h
 · cases h
theorem zAo {f : D -> D -> Option D} {g : Value -> Value -> Sem Value} (hf : ∀ a b x y d, Rep S w ι m a x -> Rep S w ι m b y -> f x y = some d -> ∃ u, (g a b).run P w = .ok u w /\ Rep S w ι m u d)
 {vs : List Value} {ds : List D} (hL : zgH S w ι m vs ds) {a : Value} {x d : D} (ha : Rep S w ι m a x) (h : zHS f x ds = some d) : ∃ u, (vs.foldlM g a).run P w = .ok u w /\ Rep S w ι m u d := by
 induction ds generalizing vs a x with
 | nil =>
   have : vs = [] := by have := hL.1; simpa using this
   subst this
   simp only [zHS, yA] at h; subst h
   exact ⟨a, rfl, ha⟩
 | cons y ds ih =>
   obtain ⟨v, vs, rfl, hv, hL⟩ := hL.cons_inv'
   simp only [zHS] at h
   obtain ⟨z, hz, h⟩ := zaa h
   obtain ⟨u, hu, hu'⟩ := hf a v x y z ha hv hz
   obtain ⟨r, hr, hr'⟩ := ih hL hu' h
   exact ⟨r, by simp only [List.foldlM_cons, Sem.run_bind, hu, Result.andThen_ok, hr], hr'⟩
end
end Go.Ev
namespace Go.Ev
open Go
section
variable {S : Nat -> Prop} {w : World} {ι : Loc} {m : Mem} {P : Program}
structure Kin (w w' : World) : Prop where
 os : w'.os = w.os
 tape : w'.tape = w.tape
 output : w'.output = w.output
theorem Kin.refl (w : World) : Kin w w := ⟨rfl, rfl, rfl⟩
theorem Kin.trans {a b c : World} (h : Kin a b) (k : Kin b c) : Kin a c := ⟨k.os.trans h.os, k.tape.trans h.tape, k.output.trans h.output⟩
theorem zgw {rs : List Row} {i j : Nat} {d : D} (h : zzl rs i j = some d) : ∃ r, rs[i]? = some r /\ r[j]? = some d := by
 unfold zzl at h
 obtain ⟨r, h1, h2⟩ := zaa h
 exact ⟨r, h1, h2⟩
theorem zhc {rs : List Row} {i j : Nat} {r : Row} {d : D} (h1 : rs[i]? = some r) (h2 : r[j]? = some d) : zzl rs i j = some d := by simp [zzl, h1, bnd, h2]
theorem zay {α : Type} {l : List α} {i : Nat} {d : α} (h : l[i]? = some d) : i < l.length := (yW.1 h).1
theorem zlf {α : Type} {sz : Nat} {rs : List (List α)} (h : ∀ r ∈ rs, r.length = sz) {i j : Nat} {r : List α} {d : α} (h1 : rs[i]? = some r) (h2 : r[j]? = some d) : rs.flatten[i * sz + j]? = some d := by
 induction rs generalizing i with
 | nil => simp at h1
 | cons a rs ih =>
   have ha : a.length = sz := h a yQ
   cases i with
   | zero =>
     simp only [yH, yA] at h1; subst h1
     simp only [List.flatten_cons, Nat.zero_mul, yk]
     rw [yn (zay h2)]; exact h2
   | succ i =>
     simp only [yX] at h1
     have := ih (fun r hr => h r (yU _ hr)) h1
     simp only [List.flatten_cons]
     rw [yv (by rw [ha, Nat.succ_mul]; omega), ha]
     rw [<- this]; congr 1
     rw [Nat.succ_mul]; omega
theorem zc7 {α : Type} {sz : Nat} {rs : List (List α)} (h : ∀ r ∈ rs, r.length = sz) : rs.flatten.length = rs.length * sz := by
 induction rs with
 | nil => simp
 | cons a rs ih =>
   simp only [List.flatten_cons, yD, yC, h a yQ, ih fun r hr => h r (yU _ hr), Nat.succ_mul]; omega
structure zjv (S : Nat -> Prop) (w : World) (ι : Loc) (m : Mem) (cur : Array Value) (o : Nat) (cl : Bool) (sz : Nat) (rs : List Row) : Prop where
 pos : 0 < sz
 len : ∀ row ∈ rs, row.length = sz
 fit : o + rs.length * sz <= cur.size
 cells : ∀ i j d, zzl rs i j = some d -> ∃ u, cur[o + (i * sz + j)]? = some u /\ Rep S w ι m u d /\ cell d = true /\ (cl = true -> zlA S w u d)
theorem zjv.mono {S' : Nat -> Prop} {w' : World} {ι' : Loc} {m' : Mem} {cur : Array Value} {o : Nat} {cl : Bool} {sz : Nat} {rs : List Row} (h : zjv S w ι m cur o cl sz rs) (e : Ext S w ι m S' w' ι' m') : zjv S' w' ι' m' cur o cl sz rs :=
 ⟨h.pos, h.len, h.fit, fun i j d hd => by
  obtain ⟨u, a1, a2, a3, a4⟩ := h.cells i j d hd
  exact ⟨u, a1, a2.ext' e, a3, fun hc => (a4 hc).mono e.st e.old⟩⟩
theorem zrS.rowsIn {r o g : Nat} {fz cl : Bool} {sz : Nat} {rs : List Row} (h : zrS S w ι m r o (.rows g fz cl sz rs)) : ∃ cur e lo hi, w.heap[r]? = some (.cells cur e (lo, hi)) /\ (fz = false -> ∀ x, x < cur.size -> ¬(lo <= x /\ x < hi)) /\ zjv S w ι m cur o cl sz rs := by
 obtain ⟨cur, e, lo, hi, h1, h2, h3, h4, h5, h6⟩ := h
 exact ⟨cur, e, lo, hi, h1, h2, h3, h4, h5, h6⟩
theorem zjv.blkOk {r o g : Nat} {fz cl : Bool} {sz : Nat} {rs : List Row} {cur : Array Value} {e : TypeId} {lo hi : Nat} (h1 : w.heap[r]? = some (.cells cur e (lo, hi))) (h2 : fz = false -> ∀ x, x < cur.size -> ¬(lo <= x /\ x < hi))
 (h : zjv S w ι m cur o cl sz rs) : zrS S w ι m r o (.rows g fz cl sz rs) :=
 ⟨cur, e, lo, hi, h1, h2, h.pos, h.len, h.fit, h.cells⟩
theorem zjv.ofFlat {sz : Nat} {rs : List Row} {vs : List Value} {cur : Array Value} {o : Nat} {cl : Bool} (hp : 0 < sz) (hl : ∀ row ∈ rs, row.length = sz) (hL : zgH S w ι m vs rs.flatten) (hc : ∀ r ∈ rs, ∀ d ∈ r, cell d = true)
 (hcl : cl = true -> ∀ (i : Nat) (v : Value) (d : D), vs[i]? = some v -> rs.flatten[i]? = some d -> zlA S w v d)
 (hfit : o + rs.length * sz <= cur.size) (hcur : ∀ i v, vs[i]? = some v -> cur[o + i]? = some v) : zjv S w ι m cur o cl sz rs := by
 refine ⟨hp, hl, hfit, fun i j d hd => ?_⟩
 obtain ⟨r, h1, h2⟩ := zgw hd
 have h3 := zlf hl h1 h2
 obtain ⟨v, hv, hr⟩ := hL.get h3
 exact ⟨v, hcur _ v hv, hr, hc r (yL h1) d (yL h2), fun h => hcl h _ v d hv h3⟩
theorem zvQ (hs : Sim S w ι m) (b : Nm) {cl : Bool} {sz : Nat} {rs : List Row} {cells : Array Value} {e : TypeId} {w' : World} (hk : Kin w w') (hheap : w'.heap = w.heap.push (.cells cells e)) (hr : zjv S w ι m cells 0 cl sz rs) :
 let ι' := ι.upd b (w.heap.size, 0)
 let m' := m.upd b (.rows (zck (m b)) false cl sz rs)
 Sim S w' ι' m' /\ Pg S w ι m S w' ι' m' := by
 refine zp6 hs b (.rows (zck (m b)) false cl sz rs) w.heap.size 0 hk.os hk.tape hk.output (by simp [hheap]) (fun r h hne => by rw [hheap, Array.getElem?_push_lt h, yp h]) (.inl (yP _)) (fun k h => .inl ?_) rfl (fun hx => ?_)
 · rw [h]; exact Nat.lt_succ_self _
 · exact (hr.mono hx).blkOk (e := e) (lo := 0) (hi := 0) (by rw [hheap]; simp) (fun _ x _ h => by omega)
theorem zfp {b : Nm} {g : Nat} {k : RB} (h : (zjH b g).exec m = some k) : m b = some (.rows g k.fz k.cl k.sz k.rs) := by
 simp only [zjH, M.exec_bind, M.exec_peek, zad] at h
 cases hm : m b with
 | none => simp [hm, zGv] at h
 | some x =>
   cases x with
   | rows g' fz cl sz rs =>
     rw [hm] at h
     simp only [zGv, M.exec_bind, M.exec_guard, M.exec_pure] at h
     obtain ⟨_, h1, h2⟩ := zaa h
     have h1 := YF (zdA h1)
     simp only [yA] at h2
     subst h1 h2; rfl
   | _ => simp [hm, zGv] at h
theorem zj3 {b : Nm} {sz : Nat} {rs : List Row} {cl : Bool} {p : Nat × Ups} (h : (znh b sz rs cl).exec m = some p) : p = (zck (m b), [(b, .rows (zck (m b)) false cl sz rs)]) := by
 simp only [znh, M.exec_bind, M.exec_peek, zad, M.exec_pure, yA] at h
 exact h.symm
theorem zzu {r o : Nat} {cur : Array Value} {e : TypeId} {fr : Nat × Nat} {v : Value} (h : w.heap[r]? = some (.cells cur e fr)) (hv : cur[o]? = some v) : w.cell? (at_ r o) = some v := by
 obtain ⟨lo, hi⟩ := fr
 simp [World.cell?, h, hv]
theorem zLT {a : Addr} {v : Value} (h : w.cell? a = some v) : (Go.load a).run P w = .ok v w := by
 simp [run_load, h]
theorem zvN {t : TypeId} {ti : TI} (ht : zkZ P t = some ti) {b base off : Nat} {row : Row} {d : D} (hc : ∀ (i : Nat) (d : D), row[i]? = some d -> ∃ u, w.cell? (at_ b (base + i)) = some u /\ Rep S w ι m u d /\ cell d = true)
 (h : part ti row off = some d) : ∃ v, (loadVar t (at_ b (base + off))).run P w = .ok v w /\ Rep S w ι m v d := by
 obtain ⟨i, u, z, hi, hu, hz, _, hk, hsz, _⟩ := ze8 ht
 unfold part at h
 obtain ⟨_, h1, h⟩ := zaa h
 have h1 := YF (zdA h1)
 have hex : ∃ vs : List Value, zgH S w ι m vs (cut row off ti.size) /\ ∀ (j : Nat) (v : Value), vs[j]? = some v -> w.cell? (at_ b (base + off + j)) = some v := by
  have key : ∀ (n : Nat) (l : List D), (∀ (j : Nat) (x : D), l[j]? = some x -> ∃ u, w.cell? (at_ b (n + j)) = some u /\ Rep S w ι m u x /\ cell x = true) -> ∃ vs : List Value, zgH S w ι m vs l /\ ∀ (j : Nat) (v : Value), vs[j]? = some v -> w.cell? (at_ b (n + j)) = some v := by
   intro n l
   induction l generalizing n with
   | nil => exact fun _ => ⟨[], zgH.nil, fun j v h => by simp at h⟩
   | cons x l ih =>
     intro hl
     obtain ⟨u, hu1, hu2, _⟩ := hl 0 x rfl
     obtain ⟨vs, h1, h2⟩ := ih (n + 1) fun j y hy => by
      have := hl (j + 1) y (by simpa using hy)
      rwa [show n + (j + 1) = n + 1 + j by omega] at this
     refine ⟨u :: vs, .cons hu2 h1, fun j v hv => ?_⟩
     cases j with
     | zero => simp only [yH, yA] at hv; subst hv; exact hu1
     | succ j =>
       have := h2 j v (by simpa using hv)
       rwa [show n + (j + 1) = n + 1 + j by omega]
  refine key (base + off) _ fun j x hx => ?_
  have := hc (off + j) x (zlO hx)
  rwa [<- Nat.add_assoc] at this
 obtain ⟨vs, hL, hcs⟩ := hex
 have hcell : ∀ x ∈ cut row off ti.size, cell x = true := fun x hx => by
  obtain ⟨j, hj⟩ := ya.1 (znq hx)
  obtain ⟨_, _, _, h⟩ := hc j x hj
  exact h
 rcases zAe hL hcell h with ⟨hagg, hr⟩ | ⟨hagg, v, hv, hd, hr⟩
 · refine ⟨_, ?_, hr⟩
   have hll := run_loadCells_list (P := P) w (at_ b (base + off)) vs (fun j v hv => by rw [Addr.add_mid]; exact hcs j v hv)
   have hlen : vs.length = i.size := by rw [hL.1, h1, hsz]
   unfold loadVar
   simp only [Sem.run_bind, zpr hu, Result.andThen_ok, <- hk, hagg, if_true, zdm hi, Sem.run_pure, <- hlen, hll]
 · refine ⟨v, ?_, hr⟩
   have : w.cell? (at_ b (base + off)) = some v := hcs 0 v (by rw [hv]; rfl)
   unfold loadVar
   simp only [Sem.run_bind, zpr hu, Result.andThen_ok, <- hk, hagg, yF, if_false, zLT this]
theorem zxh {i j n sz : Nat} (hi : i < n) (hj : j < sz) : i * sz + j < n * sz := by
 calc i * sz + j < i * sz + sz := by omega
  _ = (i + 1) * sz := by rw [Nat.succ_mul]
  _ <= n * sz := Nat.mul_le_mul_right _ hi
theorem zLW {b : Nm} {g : Nat} {fz cl : Bool} {sz : Nat} {rs : List Row} (hs : Sim S w ι m) (hm : m b = some (.rows g fz cl sz rs)) {r : Nat} {row : Row} (hr : rs[r]? = some row) :
 ∀ (i : Nat) (d : D), row[i]? = some d -> ∃ u, w.cell? (at_ (ι b).1 ((ι b).2 + r * sz + i)) = some u /\ Rep S w ι m u d /\ cell d = true := by
 intro i d hd
 obtain ⟨cur, e, lo, hi, h1, _, hR⟩ := (hs.own _ _ hm).rowsIn
 obtain ⟨u, a1, a2, a3, _⟩ := hR.cells r i d (zhc hr hd)
 exact ⟨u, zzu h1 (by rwa [<- Nat.add_assoc] at a1), a2, a3⟩
theorem zAs (hs : Sim S w ι m) {t : TypeId} {v : Value} {x d : D} (hv : Rep S w ι m v x) (h : (zM6 P t x).exec m = some d) : ∃ u, (Instr.loadAt t v).run P w = .ok u w /\ Rep S w ι m u d := by
 simp only [zM6, M.exec_bind, M.exec_lift] at h
 obtain ⟨ti, hti, h1⟩ := zaa h
 clear h
 unfold zJc at h1
 split at h1
 · rename_i b g r o
   simp only [M.exec_bind, M.exec_lift] at h1
   obtain ⟨k, hk, h2⟩ := zaa h1
   obtain ⟨row, hrow, h3⟩ := zaa h2
   have hm := zfp hk
   cases hv with
   | ext _ _ h => cases h
   | ptr _ _ _ _ a hb ha =>
     obtain rfl := ha _ _ _ _ hm
     obtain ⟨u, hu, hu'⟩ := zvN hti (zLW hs hm hrow) h3
     rw [Nat.add_assoc] at hu
     exact ⟨u, by simp only [Instr.loadAt, Instr.sureAddr, Sem.run_bind, Sem.run_pure, Result.andThen_ok, hu], hu'⟩
 · rename_i row o
   simp only [M.exec_lift] at h1
   cases hv with
   | ext _ _ h => cases h
   | eptr _ _ b base uu hst hc hr hcell =>
     obtain ⟨u, hu, hu'⟩ := zvN (P := P) (S := S) (ι := ι) (m := m) (w := w) (b := b) (base := base) hti (fun i d hd => ⟨uu i, hc i d hd, .ext _ _ (hr i d hd), hcell i d hd⟩) h1
     exact ⟨u, by simp only [Instr.loadAt, Instr.sureAddr, Sem.run_bind, Sem.run_pure, Result.andThen_ok, hu], hu'⟩
 · simp at h1
end
end Go.Ev
namespace Go.Ev
open Go
def zej (P : Program) (x : Sem Value) (S : Nat -> Prop) (w : World) (ι : Loc) (m : Mem) (r : D × Ups) : Prop :=
 ∃ v S' w' ι', x.run P w = .ok v w' /\ Sim S' w' ι' (m.upds r.2) /\ Pg S w ι m S' w' ι' (m.upds r.2) /\ Rep S' w' ι' (m.upds r.2) v r.1
def zPx (P : Program) (x : Sem Unit) (S : Nat -> Prop) (w : World) (ι : Loc) (m : Mem) (us : Ups) : Prop :=
 ∃ S' w' ι', x.run P w = .ok () w' /\ Sim S' w' ι' (m.upds us) /\ Pg S w ι m S' w' ι' (m.upds us)
section
variable {S : Nat -> Prop} {w : World} {ι : Loc} {m : Mem} {P : Program}
theorem zej.of {x : Sem Value} {d : D} (hs : Sim S w ι m) (h : ∃ v, x.run P w = .ok v w /\ Rep S w ι m v d) : zej P x S w ι m (d, []) := by
 obtain ⟨v, h1, h2⟩ := h
 exact ⟨v, S, w, ι, h1, hs, Pg.refl _ _ _ _, h2⟩
theorem zlL {r : Row} : [r].flatten = r := by simp
theorem zym (hs : Sim S w ι m) {t : TypeId} {b : Nm} {cs : List D} {v : Value} (hL : zgH S w ι m v.cells.toList cs) (hc : ∀ d ∈ cs, cell d = true) (hp : 0 < cs.length)
 (hst : zbc cs = true -> ∀ (i : Nat) (u : Value) (d : D), v.cells.toList[i]? = some u -> cs[i]? = some d -> zlA S w u d) {p : Nat × Ups} (hn : (znh b cs.length [cs] (zbc cs)).exec m = some p) :
 zej P (do pure (.pointer (some (<- newVar t v)))) S w ι m (.ptr b p.1 0 0, p.2) := by
 obtain rfl := zj3 hn
 have hr : zjv S w ι m v.cells 0 (zbc cs) cs.length [cs] := by
  refine .ofFlat (vs := v.cells.toList) hp (by simp) (by rw [zlL]; exact hL) (by simpa using hc) (by rw [zlL]; exact hst) ?_ (by simp)
  have := hL.1
  simp only [Array.length_toList] at this
  simp [this]
 obtain ⟨h1, h2⟩ := zvQ hs b (w' := w.alloc (.cells v.cells t)) ⟨rfl, rfl, rfl⟩ rfl hr
 refine ⟨_, S, _, _, by simp only [newVar, newRow, Sem.run_bind, run_newObj, Result.andThen_ok, Sem.run_pure]; rfl, h1, h2, ?_⟩
 refine .ptr _ _ _ _ _ ⟨_, Mem.upd_same _ _ _, yP _⟩ fun fz cl sz rs hm => ?_
 simp [at_]
theorem zs6 {v : Value} {d : D} (h : Rep S w ι m v d) (hs : still d = true) : zlA S w v d := by
 induction h with
 | ext v d h => exact h
 | iface t v d _ ih => exact .iface t v d (ih (by simpa [still] using hs))
 | _ => simp [still] at hs
theorem zyv {v : Value} {d : D} (h : Rep S w ι m v d) (hc : zcl (cellsOf d) = true) (hs : zbc (cellsOf d) = true) : ∀ (i : Nat) (u : Value) (e : D), v.cells.toList[i]? = some u -> (cellsOf d)[i]? = some e -> zlA S w u e :=
 fun i u e hu he => zs6 ((h.cellsL hc).2 i u e hu he) (zlQ.1 hs e (yL he))
theorem zGe (hs : Sim S w ι m) {T : Nat} {t : TypeId} {r : D × Ups} (h : (zJj P T t).exec m = some r) : zej P (Instr.alloc t true (.tuple #[])) S w ι m r := by
 simp only [zJj, M.exec_bind, M.exec_lift, M.exec_guard, M.exec_pure] at h
 obtain ⟨ti, hti, h1⟩ := zaa h
 obtain ⟨_, hg, h2⟩ := zaa h1
 obtain ⟨p, hp, h3⟩ := zaa h2
 clear h h1 h2
 obtain ⟨hg, hg3⟩ := zai (zdA hg)
 obtain ⟨hg1, hg2⟩ := zai hg
 have hg1 := YF hg1
 have hg2 := YF hg2
 simp only [yA] at h3; subst h3
 obtain ⟨i, z, hi, hz, hL, hE, hc, _, _⟩ := zn9 (S := S) (w := w) (ι := ι) (m := m) hti
 rw [<- hg2] at hp hg1
 have := zym (P := P) hs (t := t) hL hc hg1 (fun _ => hE) hp
 obtain ⟨v, S', w', ι', h1, h2⟩ := this
 refine ⟨v, S', w', ι', ?_, h2⟩
 simp only [Instr.alloc, Sem.run_bind, zgF hi hz, Result.andThen_ok]
 exact h1
theorem zKL (hs : Sim S w ι m) {T : Nat} {t : TypeId} {v : Value} {x : D} (hv : Rep S w ι m v x) {r : D × Ups} (h : (zWK P T t x).exec m = some r) : zej P (Instr.box t v) S w ι m r := by
 simp only [zWK, M.exec_bind, M.exec_lift, M.exec_guard, M.exec_pure] at h
 obtain ⟨ti, hti, h1⟩ := zaa h
 obtain ⟨_, hg, h2⟩ := zaa h1
 obtain ⟨p, hp, h3⟩ := zaa h2
 clear h h1 h2
 obtain ⟨hg, hg3⟩ := zai (zdA hg)
 obtain ⟨hg1, hg2⟩ := zai hg
 have hg1 := YF hg1
 have hg2 := YF hg2
 simp only [yA] at h3; subst h3
 rw [<- hg2] at hp hg1
 exact zym (P := P) hs (t := t) (hv.cellsL hg3) (znx.1 hg3) hg1 (zyv hv hg3) hp
theorem zyA {v : Value} {x d : D} {n : Nat} (hv : Rep S w ι m v x) (h : zCU n x = some d) : ∃ a, v = .pointer (some a) /\ Rep S w ι m (.pointer (some (a.add n))) d := by
 unfold zCU at h
 split at h
 · rename_i b g r o
   simp only [yA] at h; subst h
   cases hv with
   | ext _ _ h => cases h
   | ptr _ _ _ _ a hb ha =>
     refine ⟨a, rfl, .ptr _ _ _ _ _ hb fun fz cl sz rs hm => ?_⟩
     obtain rfl := ha _ _ _ _ hm
     rw [Addr.add_mid]
     simp only [at_, Addr.mk.injEq, true_and, and_true]; omega
 · rename_i row o
   simp only [yA] at h; subst h
   cases hv with
   | ext _ _ h => cases h
   | eptr _ _ b base u hst hc hr hcell =>
     refine ⟨_, rfl, ?_⟩
     rw [Addr.add_mid, Nat.add_assoc]
     exact .eptr row (o + n) b base u hst hc hr hcell
 · cases h
theorem zBz {a : Addr} {f : Field} {i : TypeInfo} (hi : P.info? f.type = some i) (h0 : 0 < i.size) : (fieldPlace a f).run P w = .ok (a.add f.offset) w := by
 simp only [fieldPlace, Sem.run_bind, zdm hi, Result.andThen_ok]
 rw [if_neg YJ]; rfl
theorem zxw {t : TypeId} {u : TypeDesc} (hu : P.underlying t = some u) {v : Value} {x d : D} {f : Nat} (hv : Rep S w ι m v x) (h : zqx P x f (zka u) = some d) : ∃ r, (Instr.fieldAt t v f).run P w = .ok r w /\ Rep S w ι m r d := by
 unfold zqx at h
 split at h
 · rename_i fs hku
   obtain ⟨p, hp, h1⟩ := zaa h
   obtain ⟨ti, hti, h2⟩ := zaa h1
   obtain ⟨_, h0, h3⟩ := zaa h2
   clear h h1 h2
   have h0 := YF (zdA h0)
   obtain ⟨F, rfl, rfl⟩ := zzF hku.symm
   rw [YA] at hp
   cases hF : F.toList[f]? with
   | none => simp [hF] at hp
   | some fld =>
     simp only [hF, yf, yA] at hp
     subst hp
     have hF' : F[f]? = some fld := by simpa using hF
     obtain ⟨i, _, _, hi, _, _, _, _, hsz, _⟩ := ze8 hti
     obtain ⟨a, rfl, hr⟩ := zyA hv h3
     refine ⟨_, ?_, hr⟩
     simp only [Instr.fieldAt, Sem.run_bind, run_underlying hu, Result.andThen_ok, hF', Instr.sureAddr, Sem.run_pure, zBz hi YJ]
 · cases h
theorem zyQ {t : TypeId} {v : Value} {x d : D} {f : Nat} (hv : Rep S w ι m v x) (h : zti P t x f = some d) : ∃ r, (Instr.fieldAt t v f).run P w = .ok r w /\ Rep S w ι m r d := by
 unfold zti at h
 obtain ⟨k, hk, h⟩ := zaa h
 obtain ⟨u, hu, rfl⟩ := zcT hk
 exact zxw hu hv h
theorem zAu {t e : TypeId} (hu : P.underlying t = some (.slice e)) {ti : TI} (hti : zkZ P e = some ti) {v : Value} {x d : D} {k : IntKind} {n : Int} (hv : Rep S w ι m v x) (h : (zsr ti n x).exec m = some d) : ∃ r, (Instr.indexAt t v (.int k n)).run P w = .ok r w /\ Rep S w ι m r d := by
 obtain ⟨i, _, _, hi, _, _, _, _, hsz, _⟩ := ze8 hti
 have go : ∀ (a : Addr) (len cap : Nat), 0 <= n -> n < len -> (Instr.indexAt t (.slice (some a) len cap) (.int k n)).run P w = .ok (.pointer (some (a.add (n.toNat * ti.size)))) w := by
  intro a len cap h0 h1
  simp only [Instr.indexAt, asIntOf, Sem.run_bind, Sem.run_pure, Result.andThen_ok, run_underlying hu, if_pos (And.intro h0 h1), zdm hi, <- hsz]
 unfold zsr at h
 split at h
 · rename_i f rs
   simp only [M.exec_bind, M.exec_guard, M.exec_lift, M.exec_pure] at h
   obtain ⟨_, h0, h1⟩ := zaa h
   obtain ⟨row, hrow, h2⟩ := zaa h1
   obtain ⟨_, hlen, h3⟩ := zaa h2
   clear h h1 h2
   have h0 := YF (zdA h0)
   have hlen := YF (zdA hlen)
   simp only [yA] at h3; subst h3
   have hlt := zay hrow
   cases hv.sl_inv with
   | nilsl => simp at hrow
   | esl => simp at hrow
   | sl _ _ b o cap sz u hf hfull hcap hpos hl hst hc hr hcell =>
     have hrl : row.length = sz := hl row (yL hrow)
     refine ⟨_, go _ _ _ h0 YJ, ?_⟩
     rw [Addr.add_mid]
     have := Rep.eptr (S := S) (w := w) (ι := ι) (m := m) row 0 b (o + n.toNat * sz) (u n.toNat) (fun _ => hst (by intro e; subst e; simp at hrow))
      (fun i d hd => by rw [Nat.add_assoc]; exact hc _ _ _ (zhc hrow hd)) (fun i d hd => hr _ _ _ (zhc hrow hd)) (fun i d hd => hcell _ _ _ (zhc hrow hd))
     rw [<- hlen, hrl]
     exact this
 · rename_i b g off len
   simp only [M.exec_bind, M.exec_guard, M.exec_pure] at h
   obtain ⟨_, h0, h1⟩ := zaa h
   obtain ⟨q, hq, h2⟩ := zaa h1
   obtain ⟨_, hk, h3⟩ := zaa h2
   clear h h1 h2
   obtain ⟨h0, h1⟩ := zai (zdA h0)
   have h0 := YF h0
   have h1 := YF h1
   have hk := YF (zdA hk)
   simp only [yA] at h3; subst h3
   have hm := zfp hq
   cases hv with
   | ext _ _ h => cases h
   | own _ _ _ _ cap a hb hcap hat ha =>
     refine ⟨_, go _ _ _ h0 h1, .ptr _ _ _ _ _ hb fun fz cl sz rs hm' => ?_⟩
     obtain ⟨ha1, _⟩ := ha _ _ _ _ hm'
     rw [hm] at hm'
     simp only [yA, Blk.rows.injEq, true_and] at hm'
     obtain ⟨_, _, rfl, _⟩ := hm'
     obtain rfl := ha1 YJ
     rw [Addr.add_mid, hk]
     simp only [at_, Addr.mk.injEq, true_and, and_true, yw]; omega
 · simp at h
theorem zxv {t : TypeId} {u : TypeDesc} (hu : P.underlying t = some u) {v : Value} {x d : D} {k : IntKind} {n : Int} (hv : Rep S w ι m v x) (h : (zqw P n x (zka u)).exec m = some d) : ∃ r, (Instr.indexAt t v (.int k n)).run P w = .ok r w /\ Rep S w ι m r d := by
 unfold zqw at h
 split at h
 · rename_i e hku
   obtain rfl := zf8 hku.symm
   simp only [M.exec_bind, M.exec_lift] at h
   obtain ⟨ti, hti, h1⟩ := zaa h
   exact zAu hu hti hv h1
 · rename_i len e hku
   obtain rfl := zzf hku.symm
   simp only [M.exec_bind, M.exec_lift, M.exec_guard] at h
   obtain ⟨ti, hti, h1⟩ := zaa h
   obtain ⟨_, hg, h2⟩ := zaa h1
   clear h h1
   obtain ⟨hg, hg3⟩ := zai (zdA hg)
   obtain ⟨hg1, hg2⟩ := zai hg
   have hg1 := YF hg1
   have hg2 := YF hg2
   obtain ⟨i, _, _, hi, _, _, _, _, hsz, _⟩ := ze8 hti
   obtain ⟨a, rfl, hr⟩ := zyA hv h2
   refine ⟨_, ?_, hr⟩
   simp only [Instr.indexAt, asIntOf, Sem.run_bind, Sem.run_pure, Result.andThen_ok, run_underlying hu, Instr.sureAddr, if_pos (And.intro hg1 hg2), zdm hi, <- hsz]
 · simp at h
theorem zyP {t : TypeId} {v vi : Value} {x xi d : D} (hv : Rep S w ι m v x) (hi : Rep S w ι m vi xi) (h : (zth P t x xi).exec m = some d) : ∃ r, (Instr.indexAt t v vi).run P w = .ok r w /\ Rep S w ι m r d := by
 unfold zth at h
 split at h
 · obtain rfl := hi.int_inv
   simp only [M.exec_bind, M.exec_lift] at h
   obtain ⟨k, hk, h1⟩ := zaa h
   obtain ⟨u, hu, rfl⟩ := zcT hk
   exact zxv hu hv h1
 · simp at h
theorem zix {dflt top : Nat} {v : Option Value} {x : Option D} {n : Nat} (hv : ∀ a, x = some a -> ∃ u, v = some u /\ Rep S w ι m u a) (hn : x = none -> v = none) {top' : Nat} (ht : top <= top') (h : bound dflt top x = some n) :
 (x = none /\ v = none /\ n = dflt) ∨ (∃ u, v = some u /\ n <= top /\ ∀ code, (Instr.sliceBound u top' code).run P w = .ok n w) := by
 unfold bound at h
 split at h
 · simp only [yA] at h; exact .inl ⟨rfl, hn rfl, h.symm⟩
 · obtain ⟨u, rfl, hu⟩ := hv _ rfl
   obtain rfl := hu.int_inv
   obtain ⟨_, hg, h1⟩ := zaa h
   obtain ⟨h0, h2⟩ := zai (zdA hg)
   have h0 := YF h0
   have h2 := YF h2
   simp only [yA] at h1; subst h1
   refine .inr ⟨_, rfl, by omega, fun code => ?_⟩
   simp only [Instr.sliceBound, asIntOf, Sem.run_bind, Sem.run_pure, Result.andThen_ok]
   rw [if_pos ⟨h0, by omega⟩]; rfl
 · cases h
def zP9 (S : Nat -> Prop) (w : World) (ι : Loc) (m : Mem) (v : Option Value) (x : Option D) : Prop := (∀ a, x = some a -> ∃ u, v = some u /\ Rep S w ι m u a) /\ (x = none -> v = none)
end
end Go.Ev
namespace Go.Ev
open Go
section
variable {S : Nat -> Prop} {w : World} {ι : Loc} {m : Mem} {P : Program}
theorem zkb {isS : Bool} {len cap : Nat} {lo hi mx : Option Value} {l h m' : Nat} (hm : (mx = none /\ m' = cap) ∨ ∃ u, mx = some u /\ ∀ code, (Instr.sliceBound u cap code).run P w = .ok m' w)
 (hh : (hi = none /\ mx = none /\ h = len) ∨ ∃ u, hi = some u /\ ∀ code, (Instr.sliceBound u m' code).run P w = .ok h w) (hl : (lo = none /\ l = 0) ∨ ∃ u, lo = some u /\ ∀ code, (Instr.sliceBound u h code).run P w = .ok l w) :
 (Instr.sliceBounds isS len cap lo hi mx).run P w = .ok (l, h, m') w := by
 unfold Instr.sliceBounds
 rcases hm with ⟨rfl, rfl⟩ | ⟨um, rfl, hm⟩
 · rcases hh with ⟨rfl, _, rfl⟩ | ⟨uh, rfl, hh⟩
   · rcases hl with ⟨rfl, rfl⟩ | ⟨ul, rfl, hl⟩
     · rfl
     · simp only [Sem.run_bind, Sem.run_pure, Result.andThen_ok, hl]
   · rcases hl with ⟨rfl, rfl⟩ | ⟨ul, rfl, hl⟩
     · simp only [Sem.run_bind, Sem.run_pure, Result.andThen_ok, hh]
     · simp only [Sem.run_bind, Sem.run_pure, Result.andThen_ok, hh, hl]
 · rcases hh with ⟨_, h, _⟩ | ⟨uh, rfl, hh⟩
   · cases h
   · rcases hl with ⟨rfl, rfl⟩ | ⟨ul, rfl, hl⟩
     · simp only [Sem.run_bind, Sem.run_pure, Result.andThen_ok, hm, hh]
     · simp only [Sem.run_bind, Sem.run_pure, Result.andThen_ok, hm, hh, hl]
theorem zxB (s : List UInt8) (l h : Nat) (hh : h <= s.length) (hl : l <= h) : (⟨s.toArray⟩ : ByteArray).extract l h = ⟨(cut s l (h - l)).toArray⟩ := by
 apply ByteArray.ext
 simp only [ByteArray.data_extract]
 apply Array.ext_getElem?
 intro i
 rw [Array.getElem?_extract, yd]
 simp only [List.size_toArray, yd]
 by_cases hi : i < h - l
 · rw [if_pos YJ, zQ8 hi]
 · rw [if_neg YJ]
   rw [List.getElem?_eq_none (by rw [zuK YJ]; omega)]
theorem zvX {rs : List Row} {l n i j : Nat} {d : D} (h : zzl (cut rs l n) i j = some d) : zzl rs (l + i) j = some d := by
 obtain ⟨r, h1, h2⟩ := zgw h
 exact zhc (zlO h1) h2
theorem zmz {t e : TypeId} (hu : P.underlying t = some (.slice e)) {v : Value} {lo hi mx : Option Value} : (Instr.sliceAt t v lo hi mx).run P w = (Instr.slice t v lo hi mx).run P w := by
 simp only [Instr.sliceAt, Sem.run_bind, run_underlying hu, Result.andThen_ok]
theorem zvu {t e : TypeId} (hu : P.underlying t = some (.slice e)) {i : TypeInfo} (hi : P.info? e = some i) {a : Option Addr} {len cap : Nat} {lo hi' mx : Option Value} {l h m' : Nat}
 (hb : (Instr.sliceBounds true len cap lo hi' mx).run P w = .ok (l, h, m') w) : (Instr.slice t (.slice a len cap) lo hi' mx).run P w = .ok (.slice (if m' = l then a else a.map (·.add (l * i.size))) (h - l) (m' - l)) w := by
 simp only [Instr.slice, Sem.run_bind, run_underlying hu, Result.andThen_ok, hb, zdm hi, Sem.run_pure]
theorem zxs {f : Fl} {b : Bool} (h : znn f b = .full) : f = .full /\ b = true := by cases f <;> cases b <;> simp_all [znn]
theorem zvZ {f : Fl} {b : Bool} (h : znn f b = .nil) : f = .nil := by cases f <;> cases b <;> simp_all [znn]
theorem ztp {dflt top : Nat} {x : Option D} {n : Nat} (h : bound dflt top x = some n) : n = dflt ∨ n <= top := by
 unfold bound at h
 split at h
 · simp only [yA] at h; exact .inl h.symm
 · obtain ⟨_, hg, h1⟩ := zaa h
   obtain ⟨h0, h2⟩ := zai (zdA hg)
   have h0 := YF h0
   have h2 := YF h2
   simp only [yA] at h1; subst h1
   exact .inr YJ
 · cases h
theorem zDQ {t : TypeId} {u : TypeDesc} (hu : P.underlying t = some u) {v : Value} {x d : D} {lo hi mx : Option Value} {dlo dhi dmx : Option D} (hv : Rep S w ι m v x) (hlo : zP9 S w ι m lo dlo) (hhi : zP9 S w ι m hi dhi) (hmx : zP9 S w ι m mx dmx)
 (h : (zfr P dlo dhi dmx x (zka u)).exec m = some d) : ∃ r, (Instr.sliceAt t v lo hi mx).run P w = .ok r w /\ Rep S w ι m r d := by
 unfold zfr at h
 split at h
 · rename_i s hku
   simp only [M.exec_bind, M.exec_guard, M.exec_lift, M.exec_pure] at h
   obtain ⟨_, hg, h1⟩ := zaa h
   obtain ⟨n, hn, h2⟩ := zaa h1
   obtain ⟨l, hl, h3⟩ := zaa h2
   clear h h1 h2
   have hg := zdA hg
   simp only [yA] at h3; subst h3
   obtain rfl := zvm hku.symm
   obtain rfl := hv.str_inv
   have hmx0 : dmx = none := by cases dmx <;> simp_all
   obtain rfl := hmx.2 hmx0
   have e1 := zix (P := P) hhi.1 hhi.2 (yP _) hn
   have e2 := zix (P := P) hlo.1 hlo.2 (yP _) hl
   have hns : n <= s.length := by rcases ztp hn with h | h <;> omega
   have hln : l <= n := by rcases ztp hl with h | h <;> omega
   have hb : (Instr.sliceBounds false s.length s.length lo hi none).run P w = .ok (l, n, s.length) w := by
    refine zkb (.inl ⟨rfl, rfl⟩) ?_ ?_
    · rcases e1 with ⟨_, h2, h3⟩ | ⟨u, h1, _, h2⟩
      · exact .inl ⟨h2, rfl, h3⟩
      · exact .inr ⟨u, h1, h2⟩
    · rcases e2 with ⟨_, h2, h3⟩ | ⟨u, h1, _, h2⟩
      · exact .inl ⟨h2, h3⟩
      · exact .inr ⟨u, h1, h2⟩
   refine ⟨_, ?_, .ext _ _ (.str _)⟩
   simp only [Instr.sliceAt, Instr.slice, Sem.run_bind, run_underlying hu, Result.andThen_ok, Option.isSome_none, yF, if_false, zoT, hb, Sem.run_pure, zxB s l n hns hln]
 · rename_i f rs e hku
   simp only [M.exec_bind, M.exec_guard, M.exec_lift, M.exec_pure] at h
   obtain ⟨ti, hti, h1⟩ := zaa h
   obtain ⟨m0, hm0, h2⟩ := zaa h1
   obtain ⟨n, hn, h3⟩ := zaa h2
   obtain ⟨_, hg, h4⟩ := zaa h3
   obtain ⟨l, hl, h5⟩ := zaa h4
   obtain ⟨_, hg2, h6⟩ := zaa h5
   clear h h1 h2 h3 h4 h5
   have hg := YF (zdA hg)
   have hg2 := zdA hg2
   simp only [yA] at h6; subst h6
   obtain rfl := zf8 hku.symm
   obtain ⟨i, _, _, hi', _, _, _, _, hsz, _⟩ := ze8 hti
   have hm0' : m0 <= rs.length := by rcases ztp hm0 with h | h <;> omega
   have hln : l <= n := by rcases ztp hl with h | h <;> omega
   have main : ∀ cap, rs.length <= cap -> ∃ m', (Instr.sliceBounds true rs.length cap lo hi mx).run P w = .ok (l, n, m') w /\ ((dmx.isSome = true /\ m' = m0) ∨ (dmx = none /\ m' = cap /\ m0 = rs.length)) := by
    intro cap hcap
    have e0 := zix (P := P) hmx.1 hmx.2 hcap hm0
    have e2 := zix (P := P) hlo.1 hlo.2 (yP _) hl
    have hl' : (lo = none /\ l = 0) ∨ ∃ u, lo = some u /\ ∀ code, (Instr.sliceBound u n code).run P w = .ok l w := by
     rcases e2 with ⟨_, h2, h3⟩ | ⟨u, h1, _, h2⟩
     · exact .inl ⟨h2, h3⟩
     · exact .inr ⟨u, h1, h2⟩
    rcases e0 with ⟨h0, h1, h2⟩ | ⟨um, h1, h2, h3⟩
    · subst h0
      simp only [Option.isSome_none, yF, if_false] at hn
      have e1 := zix (P := P) (top' := cap) hhi.1 hhi.2 YJ hn
      refine ⟨cap, zkb (.inl ⟨h1, rfl⟩) ?_ hl', .inr ⟨rfl, rfl, h2⟩⟩
      rcases e1 with ⟨_, h2, h3⟩ | ⟨u, h1', _, h2⟩
      · exact .inl ⟨h2, h1, h3⟩
      · exact .inr ⟨u, h1', h2⟩
    · have hs : dmx.isSome = true := by
       cases dmx with
       | none => have := hmx.2 rfl; simp [this] at h1
       | some _ => rfl
      rw [hs] at hn
      simp only [if_true] at hn
      have e1 := zix (P := P) (top' := m0) hhi.1 hhi.2 (yP _) hn
      refine ⟨m0, zkb (.inr ⟨um, h1, h3⟩) ?_ hl', .inl ⟨hs, rfl⟩⟩
      rcases e1 with ⟨_, h2, h3⟩ | ⟨u, h1', _, h2⟩
      · omega
      · exact .inr ⟨u, h1', h2⟩
   cases hv.sl_inv with
   | nilsl =>
     obtain ⟨m', hb, hmm⟩ := main 0 (by simp)
     simp only [yI] at hb hm0' hmm
     have hn0 : n = 0 := by omega
     have hl0 : l = 0 := by omega
     have hm' : m' = 0 := by rcases hmm with ⟨_, h⟩ | ⟨_, h, _⟩ <;> omega
     have h00 : m0 = 0 := by omega
     subst hn0 hl0 hm' h00
     refine ⟨_, by rw [zmz hu]; exact zvu hu hi' hb, .ext _ _ ?_⟩
     have e1 : (if dmx.isSome && (Fl.nil != .nil) then znn .full ((0:Nat) == 0) else znn .nil ((0:Nat) == 0)) = Fl.nil := by
      have : (Fl.nil != Fl.nil) = false := rfl
      rw [this, Bool.and_false]; rfl
     have e2 : cut ([] : List Row) 0 (0 - 0) = [] := rfl
     rw [e1, e2]
     exact .nilsl
   | esl _ a hf =>
     obtain ⟨m', hb, hmm⟩ := main 0 (by simp)
     simp only [yI] at hb hm0' hmm
     have hn0 : n = 0 := by omega
     have hl0 : l = 0 := by omega
     have hm' : m' = 0 := by rcases hmm with ⟨_, h⟩ | ⟨_, h, _⟩ <;> omega
     have h00 : m0 = 0 := by omega
     subst hn0 hl0 hm' h00
     refine ⟨_, by rw [zmz hu]; exact zvu hu hi' hb, .ext _ _ ?_⟩
     have hfl : (if dmx.isSome && f != .nil then znn .full ((0:Nat) == 0) else znn f ((0:Nat) == 0)) ≠ .nil := by
      split
      · intro h; cases zvZ h
      · intro h; exact hf (zvZ h)
     exact .esl _ a hfl
   | sl _ _ b o cap sz u hf hfull hcap hpos hlen hst hc hr hcell =>
     obtain ⟨m', hb, hmm⟩ := main cap hcap
     have hnm : n <= m' := by rcases hmm with ⟨_, h⟩ | ⟨_, h, h'⟩ <;> omega
     refine ⟨_, by rw [zmz hu]; exact zvu hu hi' hb, .ext _ _ ?_⟩
     have hcl : (cut rs l (n - l)).length = n - l := zuK YJ
     have hfl : (if dmx.isSome && f != .nil then znn .full (n == m0) else znn f (n == m0)) ≠ .nil := by
      split
      · intro h; cases zvZ h
      · intro h; exact hf (zvZ h)
     have hfu : (if dmx.isSome && f != .nil then znn .full (n == m0) else znn f (n == m0)) = .full -> m' - l = (cut rs l (n - l)).length := by
      rw [hcl]
      have hfn : (f != .nil) = true := by cases f <;> simp_all
      rw [hfn, Bool.and_true]
      rcases hmm with ⟨h1, h2⟩ | ⟨h1, h2, h3⟩
      · rw [h1]
        simp only [if_true]
        intro h
        have := (zxs h).2
        simp only [beq_iff_eq] at this
        omega
      · rw [h1]
        simp only [Option.isSome_none, yF, if_false]
        intro h
        have h4 := (zxs h).2
        have h5 := hfull (zxs h).1
        simp only [beq_iff_eq] at h4
        omega
     have hb' : (if m' = l then some (at_ b o) else (some (at_ b o)).map (·.add (l * i.size))) = some (at_ b (if m' = l then o else o + l * i.size)) := by
      split
      · rfl
      · simp only [yf, Addr.add_mid]
     rw [hb']
     have hsl := zlA.sl (S := S) (w := w) (if dmx.isSome && f != .nil then znn .full (n == m0) else znn f (n == m0)) (cut rs l (n - l)) b (if m' = l then o else o + l * i.size) (m' - l) sz (fun a j => u (l + a) j) hfl hfu YJ hpos
      (fun r hr => hlen r (znq hr)) (fun h => hst (by intro e; subst e; exact h (by cases hx : cut ([] : List Row) l (n - l) with
       | nil => rfl
       | cons a b => have : a ∈ cut ([] : List Row) l (n - l) := by rw [hx]; exact yQ
                     simpa using znq this))) (fun a j x hx => ?_) (fun a j x hx => hr _ _ _ (zvX hx)) (fun a j x hx => hcell _ _ _ (zvX hx))
     · rw [hcl] at hsl; exact hsl
     · have hx' := zvX hx
       obtain ⟨row, hrow, _⟩ := zgw hx
       have halt : a < n - l := by have := zay hrow; rw [hcl] at this; exact this
       obtain ⟨row', hrow', _⟩ := zgw hx'
       rw [if_neg YJ]
       have := hc _ _ _ hx'
       rw [<- this]
       have hls : l * i.size = l * sz := by
        by_cases hl0 : l = 0
        · subst hl0; simp
        · simp only [Bool.or_eq_true, YG, hl0, false_or] at hg2
          rw [<- hsz, <- zs8.1 hg2 row' (yL hrow'), hlen row' (yL hrow')]
       rw [hls, yw]
       congr 2; omega
 · rename_i b g off len e hku
   simp only [M.exec_bind, M.exec_guard, M.exec_lift, M.exec_pure] at h
   obtain ⟨_, hg, h1⟩ := zaa h
   obtain ⟨ti, hti, h2⟩ := zaa h1
   obtain ⟨n, hn, h3⟩ := zaa h2
   obtain ⟨l, hl, h4⟩ := zaa h3
   obtain ⟨q, hq, h5⟩ := zaa h4
   obtain ⟨_, hk, h6⟩ := zaa h5
   clear h h1 h2 h3 h4 h5
   have hg := zdA hg
   have hk := YF (zdA hk)
   simp only [yA] at h6; subst h6
   obtain rfl := zf8 hku.symm
   have hm := zfp hq
   obtain ⟨i, _, _, hi', _, _, _, _, hsz, _⟩ := ze8 hti
   have hmx0 : dmx = none := by cases dmx <;> simp_all
   obtain rfl := hmx.2 hmx0
   have hns : n <= len := by rcases ztp hn with h | h <;> omega
   have hln : l <= n := by rcases ztp hl with h | h <;> omega
   cases hv with
   | ext _ _ h => cases h
   | own _ _ _ _ cap a hb hcap hat ha =>
     have e1 := zix (P := P) (top' := cap) hhi.1 hhi.2 hcap hn
     have e2 := zix (P := P) hlo.1 hlo.2 (yP _) hl
     have hbb : (Instr.sliceBounds true len cap lo hi none).run P w = .ok (l, n, cap) w := by
      refine zkb (.inl ⟨rfl, rfl⟩) ?_ ?_
      · rcases e1 with ⟨_, h2, h3⟩ | ⟨u, h1, _, h2⟩
        · exact .inl ⟨h2, rfl, h3⟩
        · exact .inr ⟨u, h1, h2⟩
      · rcases e2 with ⟨_, h2, h3⟩ | ⟨u, h1, _, h2⟩
        · exact .inl ⟨h2, h3⟩
        · exact .inr ⟨u, h1, h2⟩
     have hb' : (if cap = l then some a else (some a).map (·.add (l * i.size))) = some (if cap = l then a else a.add (l * i.size)) := by split <;> rfl
     refine ⟨_, by rw [zmz hu]; exact zvu hu hi' hbb, ?_⟩
     rw [hb']
     refine .own _ _ _ _ _ _ hb YJ (by split <;> first | exact hat | (unfold Addr.add; split <;> first | exact hat | rfl)) fun fz cl sz rs hm' => ?_
     obtain ⟨ha1, ha2⟩ := ha _ _ _ _ hm'
     rw [hm] at hm'
     simp only [yA, Blk.rows.injEq, true_and] at hm'
     obtain ⟨_, _, rfl, _⟩ := hm'
     refine ⟨fun h0 => ?_, ?_⟩
     · rw [if_neg YJ, ha1 YJ, Addr.add_mid, <- hsz, hk, yw]
       simp only [at_, Addr.mk.injEq, true_and, and_true]; omega
     · rwa [show off + l + (cap - l) = off + cap by omega]
 · simp at h
theorem zF3 {t : TypeId} {v : Value} {x d : D} {lo hi mx : Option Value} {dlo dhi dmx : Option D} (hv : Rep S w ι m v x) (hlo : zP9 S w ι m lo dlo) (hhi : zP9 S w ι m hi dhi) (hmx : zP9 S w ι m mx dmx)
 (h : (zI9 P t x dlo dhi dmx).exec m = some d) : ∃ r, (Instr.sliceAt t v lo hi mx).run P w = .ok r w /\ Rep S w ι m r d := by
 simp only [zI9, M.exec_bind, M.exec_lift] at h
 obtain ⟨k, hk, h1⟩ := zaa h
 obtain ⟨u, hu, rfl⟩ := zcT hk
 exact zDQ hu hv hlo hhi hmx h1
end
end Go.Ev
namespace Go.Ev
open Go
section
variable {S : Nat -> Prop} {w : World} {ι : Loc} {m : Mem} {P : Program}
theorem zmB (b : Nat) {e : TypeId} {fr : Nat × Nat} : ∀ (vs : List Value) (o : Nat) (w : World) (cur : Array Value), w.heap[b]? = some (.cells cur e fr) ->
 ∃ cur' : Array Value, (w.setCells b o vs).heap[b]? = some (.cells cur' e fr) /\ cur'.size = cur.size /\ (∀ i, cur'[i]? = if o <= i /\ i < o + vs.length /\ i < cur.size then vs[i - o]? else cur[i]?) /\
   (∀ r, r ≠ b -> (w.setCells b o vs).heap[r]? = w.heap[r]?) /\ (w.setCells b o vs).heap.size = w.heap.size /\ Kin w (w.setCells b o vs)
 | [], o, w, cur, h => ⟨cur, h, rfl, fun i => by rw [if_neg (by simp; omega)], fun _ _ => rfl, rfl, Kin.refl w⟩
 | v :: vs, o, w, cur, h => by
     have hb : (w.setCell ⟨b, o, none⟩ v).heap[b]? = some (.cells (cur.setIfInBounds o v) e fr) := by
      obtain ⟨lo, hi⟩ := fr
      simp only [World.setCell, Array.getElem?_modify, if_true, h, yf]
      simp
     obtain ⟨cur', h1, h2, h3, h4, h5, h6⟩ := zmB b vs (o + 1) (w.setCell ⟨b, o, none⟩ v) _ hb
     refine ⟨cur', h1, by rw [h2]; simp, fun i => ?_, fun r hr => ?_, ?_, ⟨h6.os, h6.tape, h6.output⟩⟩
     · rw [h3]
       simp only [Array.size_setIfInBounds]
       by_cases e : o = i
       · subst e
         rw [if_neg YJ]
         by_cases hlt : o < cur.size
         · rw [if_pos (by simp; omega)]
           simp [hlt]
         · rw [if_neg YJ]
           simp [hlt]
       · rw [Array.getElem?_setIfInBounds_ne e]
         by_cases hc : o + 1 <= i /\ i < o + 1 + vs.length /\ i < cur.size
         · rw [if_pos hc, if_pos (by simp; omega), show i - o = (i - (o + 1)) + 1 by omega, yX]
         · rw [if_neg hc, if_neg (by simp; omega)]
     · rw [World.setCells, h4 r hr]
       simp only [World.setCell, Array.getElem?_modify, if_neg (Ne.symm hr)]
     · rw [World.setCells, h5]
       simp [World.setCell]
theorem zoL {b o : Nat} {cur : Array Value} {e : TypeId} {lo hi : Nat} (h : w.heap[b]? = some (.cells cur e (lo, hi))) (hf : ∀ x, x < cur.size -> ¬(lo <= x /\ x < hi)) {vs : List Value} (hfit : o + vs.length <= cur.size)
 (h1 : ∀ v ∈ vs, v.oneCell' = true) : (storeCells (at_ b o) vs).run P w = .ok () (w.setCells b o vs) := by
 have := run_storeCells_cells (P := P) b o vs 0 w (fun j hj => ?_) (fun j hj => ?_) h1
 · simpa using this
 · have : o + j < cur.size := by omega
   simp [World.cell?, h, this]
 · have := hf (o + 0 + j) YJ
   simp only [World.frozen?, h]
   simpa using this
theorem zO0 {rs : List Row} {r : Nat} {row : Row} {i j : Nat} {d : D} (h : zzl (rs.set r row) i j = some d) : (i = r /\ row[j]? = some d /\ r < rs.length) ∨ (i ≠ r /\ zzl rs i j = some d) := by
 obtain ⟨x, h1, h2⟩ := zgw h
 rw [List.getElem?_set] at h1
 split at h1
 · rename_i hri; subst hri
   split at h1
   · rename_i hlt
     simp only [yA] at h1; subst h1
     exact .inl ⟨rfl, h2, hlt⟩
   · cases h1
 · rename_i hri
   exact .inr ⟨Ne.symm hri, zhc h1 h2⟩
theorem zHF {sz i j r k : Nat} (hj : j < sz) (hk : k < sz) (h : i * sz + j = r * sz + k) : i = r /\ j = k := by
 have h1 : (i * sz + j) / sz = i := by rw [Nat.mul_comm, Nat.mul_add_div YJ, Nat.div_eq_of_lt hj]; omega
 have h2 : (r * sz + k) / sz = r := by rw [Nat.mul_comm, Nat.mul_add_div YJ, Nat.div_eq_of_lt hk]; omega
 have : i = r := by rw [<- h1, <- h2, h]
 subst this
 exact ⟨rfl, by omega⟩
theorem zF2 (hs : Sim S w ι m) {t : TypeId} {va vx : Value} {x d : D} {us : Ups} (ha : Rep S w ι m va d) (hx : Rep S w ι m vx x) (h : (zI8 P t d x).exec m = some us) : zPx P (Instr.storeAt t va vx) S w ι m us := by
 simp only [zI8, M.exec_bind, M.exec_lift] at h
 obtain ⟨ti, hti, h1⟩ := zaa h
 clear h
 unfold zHV at h1
 split at h1
 · rename_i b g r o
   simp only [M.exec_bind, M.exec_lift, M.exec_guard, M.exec_pure] at h1
   obtain ⟨k, hk, h2⟩ := zaa h1
   obtain ⟨row, hrow, h3⟩ := zaa h2
   obtain ⟨_, hg, h4⟩ := zaa h3
   clear h1 h2 h3
   simp only [yA] at h4; subst h4
   obtain ⟨hg, hg4⟩ := zai (zdA hg)
   obtain ⟨hg, hg3⟩ := zai hg
   obtain ⟨hg1, hg2⟩ := zai hg
   have hg1 : k.fz = false := by simpa using hg1
   have hg2 := YF hg2
   have hg4 := YF hg4
   have hm := zfp hk
   obtain ⟨i, _, _, hi, _, _, _, _, hsz, _⟩ := ze8 hti
   cases ha with
   | ext _ _ h => cases h
   | ptr _ _ _ _ a hb ha =>
     obtain rfl := ha _ _ _ _ hm
     obtain ⟨cur, e, lo, hi', hheap, hfr, hR⟩ := (hs.own _ _ hm).rowsIn
     have hcx := hx.cellsL hg3
     have hrl : row.length = k.sz := hR.len row (yL hrow)
     have hrlt := zay hrow
     have hlen : vx.cells.toList.length = ti.size := by rw [hcx.1, hg2]
     have hfit : (ι b).2 + (r * k.sz + o) + vx.cells.toList.length <= cur.size := by
      have h1 := hR.fit
      have h2 : (r + 1) * k.sz <= k.rs.length * k.sz := Nat.mul_le_mul_right _ hrlt
      rw [Nat.succ_mul] at h2
      rw [hlen]; omega
     have hrun := zoL (P := P) hheap (hfr hg1) hfit (hx.oneCells hg3)
     obtain ⟨cur', h1, h2, h3, h4, h5, h6⟩ := zmB (ι b).1 vx.cells.toList ((ι b).2 + (r * k.sz + o)) w cur hheap
     have hput := zL8 row o (cellsOf x) (by rw [hg2]; omega)
     have hstep := zp6 (w' := w.setCells (ι b).1 ((ι b).2 + (r * k.sz + o)) vx.cells.toList) hs b (.rows g k.fz (k.cl && zbc (cellsOf x)) k.sz (k.rs.set r (put row o (cellsOf x)))) (ι b).1 (ι b).2 h6.os h6.tape h6.output (by rw [h5]; omega)
      (fun c _ hc => h4 c hc) (.inr ⟨_, hm, hg1, rfl⟩) (fun k' hk' => .inr ?_) hg1 (fun hx' => ?_)
     · refine ⟨S, _, _, ?_, hstep.1, hstep.2⟩
       simp only [Instr.storeAt, Instr.sureAddr, Sem.run_bind, Sem.run_pure, Result.andThen_ok, storeVar, zdm hi]
       rw [if_neg (by simp only [Array.length_toList] at hlen; omega)]
       exact hrun
     · rw [hm] at hk'
       obtain rfl := yO hk'
       refine ⟨⟨rfl, rfl⟩, rfl, ?_⟩
       simp [zj8, hheap, h1, h2]
     · have hR' := hR.mono hx'
       refine zjv.blkOk h1 (fun hf y hy => hfr hf y (by rw [<- h2]; exact hy)) ⟨hR.pos, fun r' hr' => ?_, by rw [List.length_set, h2]; exact hR.fit, fun i' j d hd => ?_⟩
       · rcases List.mem_or_eq_of_mem_set hr' with h | rfl
         · exact hR.len _ h
         · rw [hput]; exact hrl
       · rw [h3]
         rcases zO0 hd with ⟨rfl, hd, _⟩ | ⟨hne, hd⟩
         · have hj : j < k.sz := by have := zay hd; omega
           have hcell := zxh hrlt hj
           have hfit' := hR.fit
           rw [zDt _ _ _ (by rw [hg2]; omega)] at hd
           split at hd
           · rename_i hjo
             rw [if_neg YJ]
             obtain ⟨u, a1, a2, a3, a4⟩ := hR'.cells _ _ _ (zhc hrow hd)
             exact ⟨u, a1, a2, a3, fun hc => a4 (zai hc).1⟩
           · rename_i hjo
             split at hd
             · rename_i hjl
               rw [if_pos (by rw [hlen]; omega)]
               rw [show (ι b).2 + (i' * k.sz + j) - ((ι b).2 + (i' * k.sz + o)) = j - o by omega]
               obtain ⟨u, hu1, hu2⟩ := hcx.get hd
               exact ⟨u, hu1, hu2.ext' hx', (znx.1 hg3) d (yL hd), fun hc => (zyv hx hg3 (zai hc).2 _ u d hu1 hd).mono hx'.st hx'.old⟩
             · rename_i hjl
               rw [if_neg (by rw [hlen]; omega)]
               obtain ⟨u, a1, a2, a3, a4⟩ := hR'.cells _ _ _ (zhc hrow hd)
               exact ⟨u, a1, a2, a3, fun hc => a4 (zai hc).1⟩
         · obtain ⟨u, a1, a2, a3, a4⟩ := hR'.cells _ _ _ hd
           obtain ⟨row2, hrow2, hd2⟩ := zgw hd
           have hj : j < k.sz := by have := zay hd2; rw [hR.len row2 (yL hrow2)] at this; exact this
           refine ⟨u, ?_, a2, a3, fun hc => a4 (zai hc).1⟩
           rw [if_neg]
           · exact a1
           · rintro ⟨q1, q2, _⟩
             rw [hlen] at q2
             have hex : i' * k.sz + j = r * k.sz + (i' * k.sz + j - r * k.sz) := by omega
             exact hne (zHF hj YJ hex).1
 · simp at h1
end
end Go.Ev
namespace Go.Ev
open Go
theorem zgx {α : Type} {f : α -> M (α × List Nm)} {m : Mem} {l : List α} {r : List α × List Nm} (h : (zfY f l).exec m = some r) :
 r.1.length = l.length /\ ∀ (i : Nat) (a a' : α), l[i]? = some a -> r.1[i]? = some a' -> ∃ nm, (f a).exec m = some (a', nm) /\ ∀ b ∈ nm, b ∈ r.2 := by
 induction l generalizing r with
 | nil =>
   simp only [zfY, M.exec_pure, yA] at h
   subst h
   exact ⟨rfl, fun i a a' h => by simp at h⟩
 | cons x l ih =>
   simp only [zfY, M.exec_bind, M.exec_pure] at h
   obtain ⟨p, hp, h1⟩ := zaa h
   obtain ⟨q, hq, h2⟩ := zaa h1
   simp only [yA] at h2
   subst h2
   obtain ⟨i1, i2⟩ := ih hq
   refine ⟨by simp [i1], fun i a a' ha ha' => ?_⟩
   cases i with
   | zero =>
     simp only [yH, yA] at ha ha'
     subst ha ha'
     exact ⟨p.2, hp, fun b hb => List.mem_append_left _ hb⟩
   | succ i =>
     simp only [yX] at ha ha'
     obtain ⟨nm, h3, h4⟩ := i2 i a a' ha ha'
     exact ⟨nm, h3, fun b hb => List.mem_append_right _ (h4 b hb)⟩
section
variable {S : Nat -> Prop} {w : World} {ι : Loc} {m : Mem} {P : Program}
theorem zJI {d : D} (h : still d = true) : cell d = true := by cases d <;> simp_all [still, cell]
theorem zCp {n : Nat} {d d' : D} {l : List Nm} (h : (zjj n d).exec m = some (d', l)) (hc : cell d = true) : cell d' = true := by
 cases n with
 | zero =>
   cases d <;> simp only [zjj, M.exec_pure, yA, YD] at h <;> first | (obtain ⟨rfl, _⟩ := h; exact hc) | (simp [cell] at hc)
 | succ n =>
   cases d <;> first
    | (simp only [zjj, M.exec_pure, yA, YD] at h; obtain ⟨rfl, _⟩ := h; exact hc)
    | (simp [cell] at hc; done)
    | skip
   simp only [zjj, M.exec_bind, M.exec_guard] at h
   obtain ⟨k, hk, h1⟩ := zaa h
   obtain ⟨_, hg, h2⟩ := zaa h1
   clear h h1
   split at h2
   · simp only [M.exec_pure, yA, YD] at h2
     obtain ⟨rfl, _⟩ := h2; rfl
   · simp only [M.exec_bind, M.exec_guard, M.exec_pure] at h2
     obtain ⟨p, hp, h3⟩ := zaa h2
     obtain ⟨_, hg2, h4⟩ := zaa h3
     simp only [yA, YD] at h4
     obtain ⟨rfl, _⟩ := h4; rfl
theorem znb {S' : Nat -> Prop} (hs : Sim S w ι m) (hS : ∀ r, S r -> S' r) : ∀ (n : Nat) {d d' : D} {l : List Nm} {v : Value}, (zjj n d).exec m = some (d', l) -> Rep S w ι m v d -> (∀ b ∈ l, S' (ι b).1) -> Rep S' w ι m v d' := by
 have hx : Ext S w ι m S' w ι m := ⟨hS, fun _ _ => rfl, fun b k h => ⟨k, h, .inr ⟨ziZ.refl k, rfl, yP _⟩⟩⟩
 intro n
 induction n with
 | zero =>
   intro d d' l v h hv _
   cases d <;> simp only [zjj, M.exec_pure, yA, YD] at h <;> (obtain ⟨rfl, _⟩ := h; exact hv.ext' hx)
 | succ n ih =>
   intro d d' l v h hv hl
   cases d <;> first
    | (simp only [zjj, M.exec_pure, yA, YD] at h; obtain ⟨rfl, _⟩ := h; exact hv.ext' hx)
    | skip
   case own b g off len =>
    simp only [zjj, M.exec_bind, M.exec_guard] at h
    obtain ⟨k, hk, h1⟩ := zaa h
    obtain ⟨_, hg, h2⟩ := zaa h1
    clear h h1
    have hg := YF (zdA hg)
    have hm := zfp hk
    obtain ⟨cur, e, lo, hi, hheap, _, hR⟩ := (hs.own _ _ hm).rowsIn
    cases hv with
    | ext _ _ h => cases h
    | own _ _ _ _ cap a hb hcap hat ha =>
      obtain ⟨ha1, ha2⟩ := ha _ _ _ _ hm
      have hcl : (cut k.rs off len).length = len := zuK hg
      have main : ∀ rows : List Row, rows.length = len -> (∀ i j d, zzl rows i j = some d -> ∃ d0, zzl k.rs (off + i) j = some d0 /\ cell d = true /\ ∀ u, Rep S w ι m u d0 -> (k.cl = true -> zlA S w u d0) -> zlA S' w u d) -> (∀ r ∈ rows, r.length = k.sz) -> S' (ι b).1 ->
       Rep S' w ι m (.slice (some a) len cap) (.sl .any rows) := by
       intro rows hrl hcells hlen hSb
       refine .ext _ _ ?_
       have hall : ∀ i j d, zzl rows i j = some d -> ∃ u, cur[(ι b).2 + ((off + i) * k.sz + j)]? = some u /\ zlA S' w u d /\ cell d = true := by
        intro i j d hd
        obtain ⟨d0, h1, h2, h3⟩ := hcells i j d hd
        obtain ⟨u, a1, a2, a3, a4⟩ := hR.cells _ _ _ h1
        exact ⟨u, a1, h3 u a2 a4, h2⟩
       have haat : a = at_ a.block a.off := by
        obtain ⟨ab, ao, asp⟩ := a
        simp only at hat
        subst hat; rfl
       have := zlA.sl (S := S') (w := w) .any rows a.block a.off cap k.sz (fun i j => (cur[(ι b).2 + ((off + i) * k.sz + j)]?).getD .nilIface) (by simp) (by simp) YJ hR.pos hlen ?_ ?_ ?_ ?_
       · rw [hrl, <- haat] at this; exact this
       · intro hne
         have : 0 < cap := by
          cases rows with
          | nil => exact absurd rfl hne
          | cons _ _ => simp only [yC] at hrl; omega
         rw [ha1 this]; exact hSb
       · intro i j d hd
         obtain ⟨u, a1, a2, a3⟩ := hall i j d hd
         have hi : i < len := by obtain ⟨r, hr, _⟩ := zgw hd; have := zay hr; omega
         have haa := ha1 YJ
         have e1 : a.block = (ι b).1 := by rw [haa]
         have e2 : a.off = (ι b).2 + off * k.sz := by rw [haa]
         rw [e1, e2, a1]
         simp only [yc]
         refine zzu hheap ?_
         rw [<- a1]; congr 1
         rw [yw]; omega
       · intro i j d hd
         obtain ⟨u, a1, a2, a3⟩ := hall i j d hd
         rw [a1]; exact a2
       · intro i j d hd
         obtain ⟨u, a1, a2, a3⟩ := hall i j d hd
         exact a3
      split at h2
      · rename_i hcl'
        simp only [M.exec_pure, yA, YD] at h2
        obtain ⟨rfl, rfl⟩ := h2
        refine main _ hcl (fun i j d hd => ?_) (fun r hr => hR.len r (znq hr)) (hl b yQ)
        have hd' := zvX hd
        obtain ⟨_, _, _, a3, _⟩ := hR.cells _ _ _ hd'
        exact ⟨d, hd', a3, fun u _ hE => (hE hcl').mono hS fun _ _ => rfl⟩
      · simp only [M.exec_bind, M.exec_guard, M.exec_pure] at h2
        obtain ⟨p, hp, h3⟩ := zaa h2
        obtain ⟨_, hg2, h4⟩ := zaa h3
        clear h2 h3
        have hg2 := ziS.1 (zdA hg2)
        simp only [yA, YD] at h4
        obtain ⟨rfl, rfl⟩ := h4
        obtain ⟨c1, c2⟩ := zgx hp
        have rowsOf : ∀ (i : Nat) (r' : Row), p.1[i]? = some r' -> ∃ r, (cut k.rs off len)[i]? = some r /\ r'.length = r.length /\ ∀ (j : Nat) (d d' : D), r[j]? = some d -> r'[j]? = some d' -> ∃ nm, (zjj n d).exec m = some (d', nm) /\ ∀ c ∈ nm, c ∈ p.2 := by
         intro i r' hr'
         have hi : i < (cut k.rs off len).length := by rw [<- c1]; exact zay hr'
         obtain ⟨nm, q1, q2⟩ := c2 i _ r' (yB hi) hr'
         obtain ⟨q3, q4⟩ := zgx q1
         refine ⟨_, yB hi, q3, fun j d d' hd hd' => ?_⟩
         obtain ⟨nm', q5, q6⟩ := q4 j d d' hd hd'
         exact ⟨nm', q5, fun c hc => q2 c (q6 c hc)⟩
        refine main _ (by rw [c1]; exact hcl) (fun i j d hd => ?_) (fun r hr => ?_) (hl b yQ)
        · obtain ⟨r', hr', hd'⟩ := zgw hd
          obtain ⟨r, q1, q2, q3⟩ := rowsOf i r' hr'
          have hj : j < r.length := by rw [<- q2]; exact zay hd'
          obtain ⟨nm, q4, q5⟩ := q3 j _ d (yB hj) hd'
          have hst : still d = true := (zlQ.1 (hg2 r' (yL hr'))) d (yL hd')
          refine ⟨r[j], zvX (zhc q1 (yB hj)), zJI hst, fun u hu _ => ?_⟩
          exact zs6 (ih q4 hu fun c hc => hl c (yU _ (q5 c hc))) hst
        · obtain ⟨i, hi⟩ := ya.1 hr
          obtain ⟨r0, q1, q2, _⟩ := rowsOf i r hi
          rw [q2]
          exact hR.len _ (znq (yL q1))
   case agg cs =>
    simp only [zjj, M.exec_bind, M.exec_pure] at h
    obtain ⟨p, hp, h1⟩ := zaa h
    simp only [yA, YD] at h1
    obtain ⟨rfl, rfl⟩ := h1
    obtain ⟨vs, rfl, hn, hv', hc⟩ := hv.agg_inv
    obtain ⟨c1, c2⟩ := zgx hp
    refine .agg _ _ (by rw [c1]; exact hn) (fun i u d' hu hd' => ?_) fun d' hd' => ?_
    · have hi : i < cs.length := by rw [<- c1]; exact zay hd'
      obtain ⟨nm, q1, q2⟩ := c2 i _ d' (yB hi) hd'
      exact ih q1 (hv' i u _ hu (yB hi)) fun b hb => hl b (q2 b hb)
    · obtain ⟨i, hi'⟩ := ya.1 hd'
      have hi : i < cs.length := by rw [<- c1]; exact zay hi'
      obtain ⟨nm, q1, q2⟩ := c2 i _ d' (yB hi) hi'
      exact zCp q1 (hc _ (yy hi))
   case tup cs =>
    simp only [zjj, M.exec_bind, M.exec_pure] at h
    obtain ⟨p, hp, h1⟩ := zaa h
    simp only [yA, YD] at h1
    obtain ⟨rfl, rfl⟩ := h1
    obtain ⟨vs, rfl, hn, hv'⟩ := hv.tup_inv
    obtain ⟨c1, c2⟩ := zgx hp
    refine .tup _ _ (by rw [c1]; exact hn) (fun i u d' hu hd' => ?_)
    have hi : i < cs.length := by rw [<- c1]; exact zay hd'
    obtain ⟨nm, q1, q2⟩ := c2 i _ d' (yB hi) hd'
    exact ih q1 (hv' i u _ hu (yB hi)) fun b hb => hl b (q2 b hb)
theorem zqt {b : Nm} {o : Option Blk} {u : Nm × Blk} (h : (zCA b o).exec m = some u) : ∃ g fz cl sz rs, o = some (.rows g fz cl sz rs) /\ u = (b, .rows g true cl sz rs) := by
 cases o with
 | none => simp [zCA] at h
 | some k =>
   cases k with
   | rows g fz cl sz rs =>
     simp only [zCA, M.exec_pure, yA] at h
     exact ⟨g, fz, cl, sz, rs, rfl, h.symm⟩
   | _ => simp [zCA] at h
theorem zxq {b : Nm} {g : Nat} {fz cl : Bool} {sz : Nat} {rs : List Row} (hm : m b = some (.rows g fz cl sz rs)) (l : List Nm) : (zhT l).exec (m.upd b (.rows g true cl sz rs)) = (zhT l).exec m := by
 induction l with
 | nil => rfl
 | cons c l ih =>
   simp only [zhT, M.exec_bind, M.exec_peek, zad, ih]
   by_cases e : c = b
   · subst e
     rw [Mem.upd_same, hm]; rfl
   · rw [Mem.upd_ne _ _ e]
     congr 1
     cases m c with
     | none => rfl
     | some k => cases k <;> rfl
theorem ziu {l : List Nm} {S : Nat -> Prop} {m : Mem} (hs : Sim S w ι m) {us : Ups} (h : (zhT l).exec m = some us) : ∃ S', Sim S' w ι (m.upds us) /\ Pg S w ι m S' w ι (m.upds us) /\ ∀ b ∈ l, S' (ι b).1 := by
 induction l generalizing S m us with
 | nil =>
   simp only [zhT, M.exec_pure, yA] at h
   subst h
   exact ⟨S, hs, Pg.refl _ _ _ _, by simp⟩
 | cons b l ih =>
   simp only [zhT, M.exec_bind, M.exec_peek, zad, M.exec_pure] at h
   obtain ⟨u, hu, h1⟩ := zaa h
   obtain ⟨us', hus, h2⟩ := zaa h1
   simp only [yA] at h2
   subst h2
   obtain ⟨g, fz, cl, sz, rs, hm, rfl⟩ := zqt hu
   obtain ⟨hs1, hp1⟩ := zHf hs b g fz cl sz rs hm
   obtain ⟨S', hs2, hp2, hin⟩ := ih hs1 (by rw [zxq hm]; exact hus)
   refine ⟨S', hs2, hp1.trans hp2, fun c hc => ?_⟩
   rcases yj.1 hc with rfl | hc
   · exact hp2.ext.st _ (.inr rfl)
   · exact hin c hc
theorem zoo {l : List Nm} {us : Ups} (h : (zhT l).exec m = some us) {c : Nm} (hc : c ∉ l) : (m.upds us) c = m c := by
 induction l generalizing m us with
 | nil =>
   simp only [zhT, M.exec_pure, yA] at h
   subst h; rfl
 | cons b l ih =>
   simp only [zhT, M.exec_bind, M.exec_peek, zad, M.exec_pure] at h
   obtain ⟨u, hu, h1⟩ := zaa h
   obtain ⟨us', hus, h2⟩ := zaa h1
   simp only [yA] at h2
   subst h2
   obtain ⟨g, fz, cl, sz, rs, hm, rfl⟩ := zqt hu
   simp only [yj, not_or] at hc
   have := ih (m := m.upd b (.rows g true cl sz rs)) (by rw [zxq hm]; exact hus) hc.2
   rw [Mem.upds, this, Mem.upd_ne _ _ hc.1]
end
end Go.Ev
namespace Go.Ev
open Go
theorem Mem.upds_append (m : Mem) (a b : Ups) : m.upds (a ++ b) = (m.upds a).upds b := by
 induction a generalizing m with
 | nil => rfl
 | cons x a ih => obtain ⟨n, k⟩ := x; exact ih _
theorem zjS {α : Type} {sz : Nat} (hsz : 0 < sz) {rs : List (List α)} (h : ∀ r ∈ rs, r.length = sz) {k : Nat} {d : α} (hk : rs.flatten[k]? = some d) : ∃ i j r, k = i * sz + j /\ rs[i]? = some r /\ r[j]? = some d := by
 have hlt := zay hk
 rw [zc7 h] at hlt
 have hi : k / sz < rs.length := Nat.div_lt_of_lt_mul (by rw [Nat.mul_comm]; exact hlt)
 have hr := yB hi
 have hj : k % sz < (rs[k / sz]).length := by rw [h _ (yy hi)]; exact Nat.mod_lt _ hsz
 have hd := yB hj
 have := zlf h hr hd
 have hkk : k / sz * sz + k % sz = k := by rw [Nat.mul_comm]; exact Nat.div_add_mod k sz
 rw [hkk, hk] at this
 obtain rfl := yO this
 exact ⟨_, _, _, hkk.symm, hr, hd⟩
theorem zCQ {w : World} {R : Value -> D -> Prop} {b : Nat} : ∀ (n : Nat) (l : List D), (∀ (j : Nat) (x : D), l[j]? = some x -> ∃ u, w.cell? (at_ b (n + j)) = some u /\ R u x) ->
 ∃ vs : List Value, vs.length = l.length /\ (∀ (j : Nat) (v : Value) (x : D), vs[j]? = some v -> l[j]? = some x -> R v x) /\ ∀ (j : Nat) (v : Value), vs[j]? = some v -> w.cell? (at_ b (n + j)) = some v := by
 intro n l
 induction l generalizing n with
 | nil => exact fun _ => ⟨[], rfl, fun j v x h => by simp at h, fun j v h => by simp at h⟩
 | cons x l ih =>
   intro hl
   obtain ⟨u, hu1, hu2⟩ := hl 0 x rfl
   obtain ⟨vs, h0, h1, h2⟩ := ih (n + 1) fun j y hy => by
    have := hl (j + 1) y (by simpa using hy)
    rwa [show n + (j + 1) = n + 1 + j by omega] at this
   refine ⟨u :: vs, by simp [h0], fun j v y hv hy => ?_, fun j v hv => ?_⟩
   · cases j with
     | zero => simp only [yH, yA] at hv hy; subst hv hy; exact hu2
     | succ j => exact h1 j v y (by simpa using hv) (by simpa using hy)
   · cases j with
     | zero => simp only [yH, yA] at hv; subst hv; exact hu1
     | succ j =>
       have := h2 j v (by simpa using hv)
       rwa [show n + (j + 1) = n + 1 + j by omega]
theorem zvO {P : Program} {w w' : World} (hw : w'.heap = w.heap) {b o : Nat} {vs : List Value} (h : ∀ (j : Nat) (v : Value), vs[j]? = some v -> w.cell? (at_ b (o + j)) = some v) : (loadCells (at_ b o) vs.length).run P w' = .ok vs.toArray w' :=
 run_loadCells_list w' (at_ b o) vs fun j v hv => by rw [Addr.add_mid, <- h j v hv]; simp [World.cell?, hw]
structure Src (P : Program) (S : Nat -> Prop) (w : World) (ι : Loc) (m : Mem) (size : Nat) (vx : Value) (rows : List Row) (st : Bool) (vs : List Value) : Prop where
 len : ∀ w', (Builtin.lenOf vx).run P w' = .ok rows.length w'
 first : ∀ w', w'.heap = w.heap -> (Builtin.firstCells size rows.length vx).run P w' = .ok vs.toArray w'
 rep : zgH S w ι m vs rows.flatten
 cell : ∀ r ∈ rows, ∀ d ∈ r, Ev.cell d = true
 still : st = true -> ∀ (i : Nat) (v : Value) (d : D), vs[i]? = some v -> rows.flatten[i]? = some d -> zlA S w v d
section
variable {S : Nat -> Prop} {w : World} {ι : Loc} {m : Mem} {P : Program}
theorem zLM {f : Fl} {rows : List Row} {vx : Value} (hx : zlA S w vx (.sl f rows)) {size : Nat} (hro : ∀ r ∈ rows, r.length = size) (hp : 0 < size) : ∃ vs, Src P S w ι m size vx rows true vs := by
 cases hx with
 | nilsl => exact ⟨[], fun _ => rfl, fun _ _ => rfl, zgH.nil, by simp, fun _ i v d h => by simp at h⟩
 | esl => exact ⟨[], fun _ => rfl, fun _ _ => by simp [Builtin.firstCells, loadCells, loadCellsFrom], zgH.nil, by simp, fun _ i v d h => by simp at h⟩
 | sl _ _ b o cap sz u hf hfull hcap hpos hl hst hc hr hcell =>
   obtain ⟨vs, h0, h1, h2⟩ := zCQ (w := w) (R := fun v d => zlA S w v d) (b := b) o rows.flatten fun j x hx => by
    obtain ⟨i, k, r, rfl, q1, q2⟩ := zjS hp hro hx
    have hszz : sz = size := by rw [<- hl r (yL q1), hro r (yL q1)]
    subst hszz
    exact ⟨_, hc _ _ _ (zhc q1 q2), hr _ _ _ (zhc q1 q2)⟩
   refine ⟨vs, fun _ => rfl, fun w' hw => ?_, ⟨h0, fun i v d hv hd => .ext _ _ (h1 i v d hv hd)⟩, fun r hr' d hd => ?_, fun _ => h1⟩
   · have := zvO (P := P) hw h2
     rw [h0, zc7 hro] at this
     exact this
   · obtain ⟨i, hi⟩ := ya.1 hr'
     obtain ⟨j, hj⟩ := ya.1 hd
     exact hcell _ _ _ (zhc hi hj)
theorem zLG {s : List UInt8} {size : Nat} (hro : ∀ r ∈ s.map zjU, r.length = size) (hp : 0 < size) : ∃ vs, Src P S w ι m size (.string ⟨s.toArray⟩) (s.map zjU) true vs := by
 have hfl : (s.map zjU).flatten = s.map fun b => D.int .u8 b.toNat := by
  induction s with
  | nil => rfl
  | cons b s ih => simp only [yR, List.flatten_cons, zjU, List.singleton_append]; rw [ih fun r hr => hro r (yU _ hr)]
 refine ⟨s.map fun b => Value.int .u8 b.toNat, fun w' => ?_, fun w' _ => ?_, ?_, ?_, ?_⟩
 · simp [Builtin.lenOf, zoT]
 · have : (⟨s.toArray⟩ : ByteArray).extract 0 (s.map zjU).length = ⟨s.toArray⟩ := by
    rw [yV, zxB s 0 s.length (yP _) (yi _)]
    simp [cut]
   simp only [Builtin.firstCells, this, Sem.run_pure]
   simp
 · rw [hfl]
   refine ⟨by simp, fun i v d hv hd => ?_⟩
   rw [YA] at hv hd
   cases hb : s[i]? with
   | none => simp [hb] at hv
   | some b =>
     simp only [hb, yf, yA] at hv hd
     subst hv hd
     exact .ext _ _ (.int _ _)
 · intro r hr d hd
   obtain ⟨b, _, rfl⟩ := YC.1 hr
   simp only [zjU, List.mem_singleton] at hd
   subst hd; rfl
 · intro _ i v d hv hd
   rw [hfl, YA] at hd
   rw [YA] at hv
   cases hb : s[i]? with
   | none => simp [hb] at hv
   | some b =>
     simp only [hb, yf, yA] at hv hd
     subst hv hd
     exact .int _ _
theorem zDz (hs : Sim S w ι m) {b : Nm} {g off len : Nat} {vx : Value} (hx : Rep S w ι m vx (.own b g off len)) {fz cl : Bool} {sz : Nat} {rs : List Row} (hm : m b = some (.rows g fz cl sz rs)) (hfit : off + len <= rs.length) {size : Nat}
 (hro : len ≠ 0 -> sz = size) : ∃ vs, Src P S w ι m size vx (cut rs off len) cl vs := by
 obtain ⟨cur, e, lo, hi, hheap, _, hR⟩ := (hs.own _ _ hm).rowsIn
 have hcl := zuK hfit
 have hl : ∀ r ∈ cut rs off len, r.length = sz := fun r hr => hR.len r (znq hr)
 cases hx with
 | ext _ _ h => cases h
 | own _ _ _ _ cap a hb hcap hat ha =>
   obtain ⟨ha1, _⟩ := ha _ _ _ _ hm
   obtain ⟨vs, h0, h1, h2⟩ := zCQ (w := w) (R := fun v d => Rep S w ι m v d /\ (cl = true -> zlA S w v d)) (b := (ι b).1) ((ι b).2 + off * sz) (cut rs off len).flatten fun j x hx => by
    obtain ⟨i, k, r, rfl, q1, q2⟩ := zjS hR.pos hl hx
    obtain ⟨u, a1, a2, a3, a4⟩ := hR.cells _ _ _ (zhc (zlO q1) q2)
    refine ⟨u, zzu hheap ?_, a2, a4⟩
    rw [<- a1]; congr 1
    rw [yw]; omega
   refine ⟨vs, fun _ => by rw [hcl]; rfl, fun w' hw => ?_, ⟨h0, fun i v d hv hd => (h1 i v d hv hd).1⟩, fun r hr' d hd => ?_, fun hc i v d hv hd => (h1 i v d hv hd).2 hc⟩
   · rw [hcl]
     by_cases h00 : len = 0
     · subst h00
       have : vs = [] := by
        have : vs.length = 0 := by rw [h0, zc7 hl, hcl]; simp
        exact List.eq_nil_of_length_eq_zero this
       subst this
       simp [Builtin.firstCells, loadCells, loadCellsFrom]
     · have haa := ha1 YJ
       have := zvO (P := P) hw h2
       rw [h0, zc7 hl, hcl, hro h00] at this
       rw [haa]
       simp only [Builtin.firstCells]
       rw [hro h00]
       exact this
   · obtain ⟨i, hi⟩ := ya.1 hr'
     obtain ⟨j, hj⟩ := ya.1 hd
     obtain ⟨_, _, _, a3, _⟩ := hR.cells _ _ _ (zhc (zlO hi) hj)
     exact a3
theorem zp7 {S' : Nat -> Prop} (hs : Sim S w ι m) (hS : ∀ r, S r -> S' r) {vx : Value} {x : D} (hx : Rep S w ι m vx x) {q : List Row × List Nm × Bool} (h : (zoM x).exec m = some q) {size : Nat} (hro : ∀ r ∈ q.1, r.length = size) (hp : 0 < size) (hl : ∀ b ∈ q.2.1, S' (ι b).1) :
 ∃ vs, Src P S' w ι m size vx q.1 q.2.2 vs := by
 have hx' : Ext S w ι m S' w ι m := ⟨hS, fun _ _ => rfl, fun b k h => ⟨k, h, .inr ⟨ziZ.refl k, rfl, yP _⟩⟩⟩
 unfold zoM at h
 split at h
 · rename_i f rs
   simp only [M.exec_pure, yA] at h
   subst h
   exact zLM (hx.sl_inv.mono hS fun _ _ => rfl) hro hp
 · rename_i s
   simp only [M.exec_pure, yA] at h
   subst h
   obtain rfl := hx.str_inv
   exact zLG hro hp
 · rename_i b g off len
   simp only [M.exec_bind, M.exec_guard] at h
   obtain ⟨k, hk, h1⟩ := zaa h
   obtain ⟨_, hg, h2⟩ := zaa h1
   clear h h1
   have hg := YF (zdA hg)
   have hm := zfp hk
   have hcl := zuK hg
   obtain ⟨cur, e, lo, hi, hheap, _, hR⟩ := (hs.own _ _ hm).rowsIn
   have hsz : ∀ rows : List Row, rows.length = len -> (∀ (i : Nat) (r' : Row), rows[i]? = some r' -> ∃ r, (cut k.rs off len)[i]? = some r /\ r'.length = r.length) -> (∀ r ∈ rows, r.length = size) -> len ≠ 0 -> k.sz = size := by
    intro rows h1 h2 h3 h4
    have hi : 0 < rows.length := by omega
    obtain ⟨r, q1, q2⟩ := h2 0 _ (yB hi)
    rw [<- h3 _ (yy hi), q2]
    exact (hR.len r (znq (yL q1))).symm
   split at h2
   · rename_i hc
     simp only [M.exec_pure, yA] at h2
     subst h2
     obtain ⟨vs, h⟩ := zDz (P := P) hs hx hm hg (hsz _ hcl (fun i r hr => ⟨r, hr, rfl⟩) hro)
     exact ⟨vs, h.len, h.first, h.rep.mono hx', h.cell, fun _ i v d hv hd => (h.still hc i v d hv hd).mono hS fun _ _ => rfl⟩
   · simp only [M.exec_bind, M.exec_pure] at h2
     obtain ⟨p, hp', h3⟩ := zaa h2
     simp only [yA] at h3
     subst h3
     obtain ⟨c1, c2⟩ := zgx hp'
     have rowsOf : ∀ (i : Nat) (r' : Row), p.1[i]? = some r' -> ∃ r, (cut k.rs off len)[i]? = some r /\ r'.length = r.length /\ ∀ (j : Nat) (d d' : D), r[j]? = some d -> r'[j]? = some d' -> ∃ nm, (zjj 8 d).exec m = some (d', nm) /\ ∀ c ∈ nm, c ∈ p.2 := by
      intro i r' hr'
      have hi : i < (cut k.rs off len).length := by rw [<- c1]; exact zay hr'
      obtain ⟨nm, q1, q2⟩ := c2 i _ r' (yB hi) hr'
      obtain ⟨q3, q4⟩ := zgx q1
      refine ⟨_, yB hi, q3, fun j d d' hd hd' => ?_⟩
      obtain ⟨nm', q5, q6⟩ := q4 j d d' hd hd'
      exact ⟨nm', q5, fun c hc => q2 c (q6 c hc)⟩
     have hpl : p.1.length = len := by rw [c1]; exact hcl
     have hszz := hsz _ hpl (fun i r hr => by obtain ⟨r0, a, b, _⟩ := rowsOf i r hr; exact ⟨r0, a, b⟩) hro
     obtain ⟨vs, h⟩ := zDz (P := P) hs hx hm hg hszz
     have hl0 : ∀ r ∈ cut k.rs off len, r.length = k.sz := fun r hr => hR.len r (znq hr)
     have hl1 : ∀ r ∈ p.1, r.length = k.sz := fun r hr => by
      obtain ⟨i, hi⟩ := ya.1 hr
      obtain ⟨r0, a, b, _⟩ := rowsOf i r hi
      rw [b]; exact hl0 r0 (yL a)
     have hrep : zgH S' w ι m vs p.1.flatten := by
      refine ⟨by rw [h.rep.1, zc7 hl0, zc7 hl1, c1], fun n v d' hv hd' => ?_⟩
      obtain ⟨i, j, r', rfl, q1, q2⟩ := zjS hR.pos hl1 hd'
      obtain ⟨r, q3, q4, q5⟩ := rowsOf i r' q1
      have hj : j < r.length := by rw [<- q4]; exact zay q2
      obtain ⟨nm, q6, q7⟩ := q5 j _ d' (yB hj) q2
      exact znb hs hS 8 q6 (h.rep.2 _ v _ hv (zlf hl0 q3 (yB hj))) fun c hc => hl c (q7 c hc)
     have hcell : ∀ r ∈ p.1, ∀ d ∈ r, cell d = true := by
      intro r' hr' d' hd'
      obtain ⟨i, hi⟩ := ya.1 hr'
      obtain ⟨j, hj'⟩ := ya.1 hd'
      obtain ⟨r, q3, q4, q5⟩ := rowsOf i r' hi
      have hj : j < r.length := by rw [<- q4]; exact zay hj'
      obtain ⟨nm, q6, q7⟩ := q5 j _ d' (yB hj) hj'
      exact zCp q6 (h.cell r (yL q3) _ (yy hj))
     refine ⟨vs, fun w' => by rw [h.len, hpl, hcl], fun w' hw => by rw [hpl, <- hcl]; exact h.first w' hw, hrep, hcell, fun hst i v d hv hd => ?_⟩
     obtain ⟨i', j, r', rfl, q1, q2⟩ := zjS hR.pos hl1 hd
     exact zs6 (hrep.2 _ v d hv hd) (zlQ.1 (ziS.1 hst r' (yL q1)) d (yL q2))
 · simp at h
end
end Go.Ev
namespace Go.Ev
open Go
section
variable {S : Nat -> Prop} {w : World} {ι : Loc} {m : Mem} {P : Program}
theorem zp8 {u : TypeDesc} (h : zr3 (zka u) = true) : (∃ e, u = .slice e) ∨ u = .string := by
 cases u <;> first | exact .inl ⟨_, rfl⟩ | exact .inr rfl | cases h
theorem zuP {t tx e : TypeId} {u : TypeDesc} (hu : P.underlying t = some (.slice e)) (hux : P.underlying tx = some u) (hk : zr3 (zka u) = true) {i : TypeInfo} (hi : P.info? e = some i) (ty : TypeId) {a : Addr} {len cap n : Nat} {vx : Value} (hl : ∀ w', (Builtin.lenOf vx).run P w' = .ok n w')
 (hfit : len + n <= cap) {new : Array Value} (hn : (Builtin.firstCells i.size n vx).run P w = .ok new w) {w' : World} (hst : (storeCells (a.add (len * i.size)) new.toList).run P w = .ok () w') :
 (Builtin.append_ #[t, tx] ty #[.slice (some a) len cap, vx]).run P w = .ok (.slice (some a) (len + n) cap) w' := by
 rcases zp8 hk with ⟨e', rfl⟩ | rfl <;>
 · unfold Builtin.append_
   simp only [yd, yH, yX, Sem.run_bind, run_underlying hu, run_underlying hux, Result.andThen_ok, zdm hi, Sem.run_pure, yx, if_true, yF, if_false, hl, if_pos hfit, hn, hst]
theorem zIh {t tx e : TypeId} {u : TypeDesc} (hu : P.underlying t = some (.slice e)) (hux : P.underlying tx = some u) (hk : zr3 (zka u) = true) {i : TypeInfo} (hi : P.info? e = some i) (ty : TypeId) {vx : Value} (hl : ∀ w', (Builtin.lenOf vx).run P w' = .ok 0 w')
 {new : Array Value} (hn : (Builtin.firstCells i.size 0 vx).run P w = .ok new w) :
 (Builtin.append_ #[t, tx] ty #[.slice none 0 0, vx]).run P w = .ok (.slice none 0 0) w := by
 rcases zp8 hk with ⟨e', rfl⟩ | rfl <;>
 · unfold Builtin.append_
   simp only [yd, yH, yX, Sem.run_bind, run_underlying hu, run_underlying hux, Result.andThen_ok, zdm hi, Sem.run_pure, yx, if_true, yF, if_false, hl, Nat.add_zero, yP, hn]
theorem zAJ {t tx e : TypeId} {u : TypeDesc} (hu : P.underlying t = some (.slice e)) (hux : P.underlying tx = some u) (hk : zr3 (zka u) = true) {i : TypeInfo} (hi : P.info? e = some i) {z : Value} (hz0 : i.zero = some z) (ty : TypeId) {base : Option Addr} {len cap n : Nat} {vx : Value}
 (hl : ∀ w', (Builtin.lenOf vx).run P w' = .ok n w') (hfit : ¬ len + n <= cap) (hroom : (len + n) * i.bytes <= room) (hb : 0 < i.bytes) {old new : List Value}
 (ho : ∀ w', w'.heap = w.heap -> (Builtin.firstCells i.size len (.slice base len cap)).run P w' = .ok old.toArray w') (hn : ∀ w', w'.heap = w.heap -> (Builtin.firstCells i.size n vx).run P w' = .ok new.toArray w') :
 ∃ (c : Nat) (rest : Array Value) (w' : World), (Builtin.append_ #[t, tx] ty #[.slice base len cap, vx]).run P w = .ok (.slice (some (at_ w.heap.size 0)) (len + n) c) w' /\
   w'.heap = w.heap.push (.cells (old.toArray ++ new.toArray ++ rest) e) /\ Kin w w' /\ len + n <= c /\ rest.size = (c - (len + n)) * z.cells.size := by
 have hg : ¬ (Builtin.nextslicecap (len + n) cap * i.bytes > 2 ^ 48) := by
  have := growslice_fits (need := len + n) (old := cap) (bytes := i.bytes) YJ hroom
  omega
 have hmax : ¬ (((len + n : Nat) : Int) > IntKind.i64.max) := by
  have : len + n <= (len + n) * i.bytes := Nat.le_mul_of_pos_right _ hb
  simp only [room] at hroom
  simp only [IntKind.max, IntKind.signed, IntKind.bits]; simp; omega
 have hq : (Question.appendCap (len + n) cap e).forced = false := rfl
 let c := (Question.appendCap (len + n) cap e).cut (w.tape w.drawn (Question.appendCap (len + n) cap e))
 let rest := Builtin.zeroCells z.cells (c - (len + n))
 refine ⟨c, rest, { heap := w.heap.push (.cells (old.toArray ++ new.toArray ++ rest) e), tape := w.tape, drawn := w.drawn + 1, os := w.os, output := w.output }, ?_, rfl, ⟨rfl, rfl, rfl⟩, ?_, ?_⟩
 · have ho' := ho { w with drawn := w.drawn + 1 } rfl
   have hn' := hn { w with drawn := w.drawn + 1 } rfl
   rcases zp8 hk with ⟨e', rfl⟩ | rfl <;>
   · unfold Builtin.append_
     simp only [yd, yH, yX, Sem.run_bind, run_underlying hu, run_underlying hux, Result.andThen_ok, zdm hi, Sem.run_pure, yx, if_true, yF, if_false, hl, if_neg hfit, zqd hi, false_or, hmax, false_and, hg, run_choose, hq, run_askRoom, ho', hn', zgF hi hz0, newRow, run_newObj]
     rfl
 · simp only [c, Question.cut]; omega
 · simp [rest, Builtin.zeroCells]
end
end Go.Ev
namespace Go.Ev
open Go
section
variable {S : Nat -> Prop} {w : World} {ι : Loc} {m : Mem} {P : Program}
theorem zr6 {n : Nat} {a b : List Row} (ha : ∀ r ∈ a, r.length = n) (hb : ∀ r ∈ b, r.length = n) : ∀ r ∈ a ++ b, r.length = n := by
 intro r hr
 rcases yu.1 hr with h | h
 · exact ha r h
 · exact hb r h
theorem zI3 {S1 : Nat -> Prop} {m1 : Mem} (hs1 : Sim S1 w ι m1) {b : Nm} {size : Nat} (hp : 0 < size) {old new : List Row} {vo vn : List Value} {cl1 cl2 : Bool}
 (ho : zgH S1 w ι m1 vo old.flatten) (hoc : ∀ r ∈ old, ∀ d ∈ r, cell d = true) (hol : ∀ r ∈ old, r.length = size) (hos : cl1 = true -> ∀ (i : Nat) (v : Value) (d : D), vo[i]? = some v -> old.flatten[i]? = some d -> zlA S1 w v d)
 (hn : zgH S1 w ι m1 vn new.flatten) (hnc : ∀ r ∈ new, ∀ d ∈ r, cell d = true) (hnl : ∀ r ∈ new, r.length = size) (hns : cl2 = true -> ∀ (i : Nat) (v : Value) (d : D), vn[i]? = some v -> new.flatten[i]? = some d -> zlA S1 w v d)
 {w' : World} (hk : Kin w w') {rest : Array Value} {e : TypeId} (hh : w'.heap = w.heap.push (.cells (vo.toArray ++ vn.toArray ++ rest) e)) {need c : Nat} (hneed : need = old.length + new.length) (hc : need <= c) (hr : rest.size = (c - need) * size) :
 let m' := m1.upd b (.rows (zck (m1 b)) false (cl1 && cl2) size (old ++ new))
 let ι' := ι.upd b (w.heap.size, 0)
 Sim S1 w' ι' m' /\ Pg S1 w ι m1 S1 w' ι' m' /\ Rep S1 w' ι' m' (.slice (some (at_ w.heap.size 0)) need c) (.own b (zck (m1 b)) 0 need) := by
 have hl := zr6 hol hnl
 have hvo : vo.length = old.length * size := by rw [ho.1, zc7 hol]
 have hvn : vn.length = new.length * size := by rw [hn.1, zc7 hnl]
 have hR : zjv S1 w ι m1 (vo.toArray ++ vn.toArray ++ rest) 0 (cl1 && cl2) size (old ++ new) := by
  refine .ofFlat (vs := vo ++ vn) hp hl (by rw [List.flatten_append]; exact ho.append hn) (fun r hr => (yu.1 hr).elim (hoc r) (hnc r)) (fun hcl i v d hv hd => ?_) ?_ (fun i v hv => ?_)
  · obtain ⟨h1, h2⟩ := zai hcl
    rw [List.flatten_append] at hd
    rcases Nat.lt_or_ge i vo.length with hi | hi
    · rw [yn hi] at hv
      rw [yn (ho.1 ▸ hi)] at hd
      exact hos h1 i v d hv hd
    · rw [yv hi] at hv
      rw [yv (ho.1 ▸ hi), <- ho.1] at hd
      exact hns h2 _ v d hv hd
  · simp only [Array.size_append, List.size_toArray, yD, hvo, hvn, yw]; omega
  · have hi := zay hv
    rw [yk, Array.getElem?_append_left (by simpa using hi)]
    have : (vo.toArray ++ vn.toArray : Array Value) = (vo ++ vn).toArray := by simp
    rw [this, yd]; exact hv
 obtain ⟨h1, h2⟩ := zvQ hs1 b hk hh hR
 refine ⟨h1, h2, .own _ _ _ _ _ _ ⟨_, Mem.upd_same _ _ _, yP _⟩ hc rfl fun fz cl sz rs hm => ?_⟩
 rw [Mem.upd_same] at hm
 simp only [yA, Blk.rows.injEq, true_and] at hm
 obtain ⟨_, _, rfl, _⟩ := hm
 rw [Loc.upd_same]
 refine ⟨fun _ => by simp, ?_⟩
 have : zj8 w' w.heap.size = (vo.toArray ++ vn.toArray ++ rest).size := by simp [zj8, hh]
 rw [this]
 simp only [Array.size_append, List.size_toArray, hvo, hvn, hr, yk, <- yw]
 exact Nat.le_of_eq (by congr 1; omega)
theorem zop {S' : Nat -> Prop} {m1 : Mem} (h : Pg S w ι m S' w ι m1) : Ext S' w ι m S' w ι m1 := ⟨fun _ h => h, fun _ _ => rfl, h.ext.blk⟩
theorem zBF (hs : Sim S w ι m) {T : Nat} {t tx e : TypeId} {u : TypeDesc} (hu : P.underlying t = some (.slice e)) (hux : P.underlying tx = some u) (hk : zr3 (zka u) = true) {ti : TI} (hti : zkZ P e = some ti) {ty : TypeId}
 {vs vx : Value} {s x : D} (hvs : Rep S w ι m vs s) (hvx : Rep S w ι m vx x) {q : List Row × List Nm × Bool} (hq : (zoM x).exec m = some q) (hro : ∀ r ∈ q.1, r.length = ti.size) (hp : 0 < ti.size) (hb0 : 0 < ti.bytes) (hzl : ti.zero.length = ti.size)
 {r : D × Ups} (h : (zv3 T ti q.1 q.2.1 q.2.2 s).exec m = some r) : zej P (Builtin.append_ #[t, tx] ty #[vs, vx]) S w ι m r := by
 obtain ⟨i, z, hi, hz, hzL, _, _, hsz, hbt⟩ := zn9 (S := S) (w := w) (ι := ι) (m := m) hti
 have hzs : z.cells.size = ti.size := by have := hzL.1; simp only [Array.length_toList] at this; omega
 unfold zv3 at h
 split at h
 · rename_i b g off len
   simp only [M.exec_bind, M.exec_guard, M.exec_pure] at h
   obtain ⟨fz, hfz, h1⟩ := zaa h
   obtain ⟨k, hkk, h2⟩ := zaa h1
   obtain ⟨_, hg, h3⟩ := zaa h2
   clear h h1 h2
   simp only [yA] at h3; subst h3
   obtain ⟨hg, hg5⟩ := zai (zdA hg)
   obtain ⟨hg, hg4⟩ := zai hg
   obtain ⟨hg, hg3⟩ := zai hg
   obtain ⟨hg1, hg2⟩ := zai hg
   have hg1 : k.fz = false := by simpa using hg1
   have hg2 := YF hg2
   have hg3 := YF hg3
   have hg4 := YF hg4
   have hnl : b ∉ q.2.1 := by simpa using hg5
   have hm := zfp hkk
   obtain ⟨S1, hs1, hp1, hin⟩ := ziu hs hfz
   obtain ⟨vn, hsrc⟩ := zp7 (P := P) hs hp1.ext.st hvx hq hro hp hin
   obtain ⟨vo, hown⟩ := zDz (P := P) hs hvs hm YJ (size := ti.size) (fun _ => hg3)
   have hcl : (cut k.rs off len).length = len := zuK YJ
   have hm1 : (m.upds fz) b = some (.rows g k.fz k.cl k.sz k.rs) := by rw [zoo hfz hnl]; exact hm
   have hnrep := hsrc.rep.mono (zop hp1)
   obtain ⟨cur, te, lo, hi', hheap, hfr, hR⟩ := (hs1.own _ _ hm1).rowsIn
   have hrl : ∀ r ∈ cut k.rs off len, r.length = ti.size := fun r hr => by rw [<- hg3]; exact hR.len r (znq hr)
   have hgen : zck ((m.upds fz) b) = g + 1 := by rw [hm1]; rfl
   have hvnl : vn.length = q.1.length * ti.size := by rw [hsrc.rep.1, zc7 hro]
   have hupds : m.upds (fz ++ [(b, .rows (g + 1) false (k.cl && q.2.2) k.sz (cut k.rs off len ++ q.1))]) = (m.upds fz).upd b (.rows (g + 1) false (k.cl && q.2.2) k.sz (cut k.rs off len ++ q.1)) := by
    rw [Mem.upds_append]; rfl
   unfold zej
   simp only [hupds]
   cases hvs with
   | ext _ _ h => cases h
   | own _ _ _ _ cap a hb hcap hat ha =>
     obtain ⟨ha1, ha2⟩ := ha _ _ _ _ hm
     by_cases hfit : len + q.1.length <= cap
     · -- there is room
       have hbs : zj8 w (ι b).1 = cur.size := by simp [zj8, hheap]
       rw [hbs] at ha2
       have hmul : (off + (len + q.1.length)) * k.sz <= (off + cap) * k.sz := Nat.mul_le_mul_right _ YJ
       have hoff : (off + (len + q.1.length)) * k.sz = off * k.sz + len * k.sz + q.1.length * k.sz := by rw [yw, yw]; omega
       have hA : (ι b).2 + off * k.sz + len * k.sz + q.1.length * k.sz <= cur.size := by omega
       have hst : ∃ w', (storeCells (a.add (len * i.size)) vn).run P w = .ok () w' /\ w' = w.setCells (ι b).1 ((ι b).2 + (off + len) * k.sz) vn := by
        by_cases h0 : cap = 0
        · have : q.1.length = 0 := by omega
          have : vn = [] := List.eq_nil_of_length_eq_zero (by rw [hvnl, this]; simp)
          subst this
          exact ⟨w, by simp [storeCells], rfl⟩
        · have haa := ha1 YJ
          have e1 : a.add (len * i.size) = at_ (ι b).1 ((ι b).2 + (off + len) * k.sz) := by
           rw [haa, Addr.add_mid, <- hsz, hg3, yw]
           simp only [at_, Addr.mk.injEq, true_and, and_true]; omega
          rw [e1]
          refine ⟨_, zoL (P := P) hheap (hfr hg1) ?_ ?_, rfl⟩
          · rw [hvnl, <- hg3, yw]; omega
          · intro v hv
            obtain ⟨j, hj⟩ := ya.1 hv
            have hj' : j < q.1.flatten.length := by rw [<- hsrc.rep.1]; exact zay hj
            obtain ⟨i1, j1, r1, _, q1, q2⟩ := zjS hp hro (yB hj')
            exact (hsrc.rep.2 j v _ hj (yB hj')).oneCell (hsrc.cell r1 (yL q1) _ (yL q2))
       obtain ⟨w', hst1, rfl⟩ := hst
       have hrun := zuP (P := P) hu hux hk hi ty hsrc.len hfit (by rw [<- hsz]; exact hsrc.first w rfl) (by simpa using hst1)
       obtain ⟨cur', c1, c2, c3, c4, c5, c6⟩ := zmB (ι b).1 vn ((ι b).2 + (off + len) * k.sz) w cur hheap
       have hstep := zp6 (w' := w.setCells (ι b).1 ((ι b).2 + (off + len) * k.sz) vn) hs1 b (.rows (g + 1) false (k.cl && q.2.2) k.sz (cut k.rs off len ++ q.1)) (ι b).1 ((ι b).2 + off * k.sz) c6.os c6.tape c6.output (by rw [c5]; exact yP _)
        (fun c _ hc => c4 c hc) (.inr ⟨_, hm1, hg1, rfl⟩) (fun k' hk' => .inl ?_) rfl (fun hx' => ?_)
       · refine ⟨_, S1, _, _, hrun, hstep.1, hp1.trans hstep.2, ?_⟩
         refine .own _ _ _ _ _ _ ⟨_, Mem.upd_same _ _ _, yP _⟩ hfit hat fun fz' cl' sz' rs' hm' => ?_
         rw [Mem.upd_same] at hm'
         simp only [yA, Blk.rows.injEq, true_and] at hm'
         obtain ⟨_, _, rfl, _⟩ := hm'
         rw [Loc.upd_same]
         refine ⟨fun hc => by rw [ha1 hc]; simp, ?_⟩
         have : zj8 (w.setCells (ι b).1 ((ι b).2 + (off + len) * k.sz) vn) (ι b).1 = cur.size := by simp [zj8, c1, c2]
         rw [this, yk]
         rw [yw] at ha2
         omega
       · rw [hm1] at hk'
         obtain rfl := yO hk'
         exact Nat.lt_succ_self _
       · have hR' := hR.mono hx'
         have hn' := hnrep.mono hx'
         refine zjv.blkOk c1 (fun _ y hy => hfr hg1 y (by rw [<- c2]; exact hy)) ⟨hR.pos, zr6 (fun r hr => hR.len r (znq hr)) (fun r hr => by rw [hg3]; exact hro r hr), ?_, fun i' j d hd => ?_⟩
         · rw [yD, hcl, c2, yw]
           omega
         · obtain ⟨row, hrow, hjd⟩ := zgw hd
           rcases Nat.lt_or_ge i' len with hlt | hge
           · rw [yn YJ] at hrow
             have hrow' := zlO hrow
             obtain ⟨u', a1, a2, a3, a4⟩ := hR'.cells _ _ _ (zhc hrow' hjd)
             have hj : j < k.sz := by have := zay hjd; rw [hR.len row (yL hrow')] at this; exact this
             have hlt' := zxh hlt hj
             refine ⟨u', ?_, a2, a3, fun hc => a4 (zai hc).1⟩
             rw [c3, if_neg (by rw [yw]; omega), <- a1]
             congr 1
             rw [yw]; omega
           · rw [yv YJ, hcl] at hrow
             have hfl := zlf (sz := ti.size) hro hrow hjd
             obtain ⟨v, hv, hvr⟩ := hn'.get hfl
             refine ⟨v, ?_, hvr, hsrc.cell row (yL hrow) d (yL hjd), fun hc => (hsrc.still (zai hc).2 _ v d hv hfl).mono hx'.st hx'.old⟩
             have hvl := zay hv
             have hi1 : i' - len < q.1.length := zay hrow
             have hj : j < k.sz := by have := zay hjd; rw [hro row (yL hrow)] at this; omega
             have e1 : i' * k.sz = len * k.sz + (i' - len) * k.sz := by rw [<- yw]; congr 1; omega
             have e3 := zxh hi1 hj
             rw [c3, if_pos]
             · rw [<- hv]; congr 1
               rw [<- hg3, yw]; omega
             · rw [hvnl, <- hg3, yw]
               omega
     · -- a new array
       obtain ⟨c, rest, w', hrun, hh, hkin, hc, hrest⟩ := zAJ (P := P) hu hux hk hi hz ty (base := some a) (len := len) (cap := cap) hsrc.len hfit (by rw [<- hbt]; exact hg4) (by rw [<- hbt]; exact hb0)
        (fun w'' hw => by have := hown.first w'' hw; rw [hcl, hsz] at this; exact this) (fun w'' hw => by rw [<- hsz]; exact hsrc.first w'' hw)
       obtain ⟨h1, h2, h3⟩ := zI3 hs1 (b := b) (cl1 := k.cl) (cl2 := q.2.2) hp (old := cut k.rs off len) (new := q.1) (hown.rep.mono hp1.ext) hown.cell hrl (fun hc i v d hv hd => (hown.still hc i v d hv hd).mono hp1.ext.st hp1.ext.old)
        hnrep hsrc.cell hro hsrc.still hkin hh (need := len + q.1.length) (by rw [hcl]) hc (by rw [hrest, hzs])
       rw [hgen, <- hg3] at h1 h2 h3
       exact ⟨_, S1, w', _, hrun, h1, hp1.trans h2, h3⟩
 · rename_i f rs
   simp only [M.exec_bind, M.exec_guard] at h
   obtain ⟨_, hg, h1⟩ := zaa h
   clear h
   obtain ⟨hg1, hg2⟩ := zai (zdA hg)
   have hg2 := zs8.1 hg2
   split at h1
   · rename_i hemp
     simp only [M.exec_pure, yA] at h1
     subst h1
     have hem : q.1 = [] := by simpa using hemp
     -- nothing is added: no block is read
     have hrun : ∀ w', (Builtin.lenOf vx).run P w' = .ok 0 w' /\ (Builtin.firstCells i.size 0 vx).run P w' = .ok #[] w' := by
      intro w'
      have hl0 : (Builtin.lenOf vx).run P w' = .ok 0 w' := by
       unfold zoM at hq
       split at hq
       · simp only [M.exec_pure, yA] at hq
         subst hq
         simp only at hem
         subst hem
         cases hvx.sl_inv <;> rfl
       · simp only [M.exec_pure, yA] at hq
         subst hq
         obtain rfl := hvx.str_inv
         rename_i s'
         have : s' = [] := by simpa using hem
         subst this; rfl
       · rename_i b g off len
         simp only [M.exec_bind, M.exec_guard] at hq
         obtain ⟨k, hk2, q1⟩ := zaa hq
         obtain ⟨_, hg3, q2⟩ := zaa q1
         have hg3 := YF (zdA hg3)
         have hcl : (cut k.rs off len).length = len := zuK hg3
         have hlen : len = 0 := by
          split at q2
          · simp only [M.exec_pure, yA] at q2
            subst q2
            simp only at hem
            rw [hem] at hcl
            simpa using hcl.symm
          · simp only [M.exec_bind, M.exec_pure] at q2
            obtain ⟨p, hp', q3⟩ := zaa q2
            simp only [yA] at q3
            subst q3
            obtain ⟨c1, _⟩ := zgx hp'
            simp only at hem
            rw [hem, hcl] at c1
            simpa using c1.symm
         subst hlen
         cases hvx with
         | ext _ _ h => cases h
         | own => rfl
       · simp at hq
      refine ⟨hl0, ?_⟩
      unfold zoM at hq
      split at hq
      · cases hvx.sl_inv <;> simp [Builtin.firstCells, loadCells, loadCellsFrom]
      · rename_i s'
        simp only [M.exec_pure, yA] at hq
        subst hq
        obtain rfl := hvx.str_inv
        have : s' = [] := by simpa using hem
        subst this
        simp only [Builtin.firstCells, Sem.run_pure]
        simp
      · cases hvx with
        | ext _ _ h => cases h
        | own => simp [Builtin.firstCells, loadCells, loadCellsFrom]
      · simp at hq
     refine zej.of hs ⟨vs, ?_, hvs⟩
     cases hvs.sl_inv with
     | nilsl => exact zIh (P := P) hu hux hk hi ty (fun w' => (hrun w').1) (hrun w).2
     | esl _ a hf =>
       have := zuP (P := P) (w := w) (w' := w) (a := a) (len := 0) (cap := 0) hu hux hk hi ty (fun w' => (hrun w').1) YJ (hrun w).2 (by simp [storeCells])
       simpa using this
     | sl _ _ b o cap sz uu hf hfull hcap =>
       have := zuP (P := P) (w := w) (w' := w) (a := at_ b o) (len := rs.length) (cap := cap) hu hux hk hi ty (fun w' => (hrun w').1) YJ (hrun w).2 (by simp [storeCells])
       simpa using this
   · rename_i hemp
     have hne : q.1.length ≠ 0 := by intro h; exact hemp (by simpa using h)
     simp only [M.exec_bind, M.exec_guard, M.exec_pure] at h1
     obtain ⟨fz, hfz, h2⟩ := zaa h1
     obtain ⟨_, hg3, h3⟩ := zaa h2
     obtain ⟨p, hp', h4⟩ := zaa h3
     clear h1 h2 h3
     simp only [yA] at h4; subst h4
     obtain ⟨hg3, hg4⟩ := zai (zdA hg3)
     have hg3 := YF hg3
     have hnl : Nm.loc T 0 ∉ q.2.1 := by simpa using hg4
     obtain rfl := zj3 hp'
     obtain ⟨S1, hs1, hp1, hin⟩ := ziu hs hfz
     obtain ⟨vn, hsrc⟩ := zp7 (P := P) hs hp1.ext.st hvx hq hro hp hin
     obtain ⟨vo, hown⟩ := zLM (P := P) (ι := ι) (m := m) (hvs.sl_inv.mono hp1.ext.st hp1.ext.old) hg2 hp
     have hcapE : ∃ base cap, vs = .slice base rs.length cap /\ cap = rs.length := by
      cases hvs.sl_inv with
      | nilsl => exact ⟨none, 0, rfl, rfl⟩
      | esl _ a hf => exact ⟨some a, 0, rfl, rfl⟩
      | sl _ _ b o cap sz uu hf hfull hcap => exact ⟨_, cap, rfl, hfull (by cases f <;> simp_all)⟩
     obtain ⟨base, cap, rfl, rfl⟩ := hcapE
     obtain ⟨c, rest, w', hrun, hh, hkin, hc, hrest⟩ := zAJ (P := P) hu hux hk hi hz ty (base := base) (len := rs.length) (cap := rs.length) hsrc.len YJ (by rw [<- hbt]; exact hg3) (by rw [<- hbt]; exact hb0)
      (fun w'' hw => by rw [<- hsz]; exact hown.first w'' hw) (fun w'' hw => by rw [<- hsz]; exact hsrc.first w'' hw)
     obtain ⟨h1, h2, h3⟩ := zI3 hs1 (b := .loc T 0) (cl1 := true) (cl2 := q.2.2) hp (old := rs) (new := q.1) (hown.rep.mono (zop hp1)) hown.cell hg2 (fun _ => hown.still rfl)
      (hsrc.rep.mono (zop hp1)) hsrc.cell hro hsrc.still hkin hh (need := rs.length + q.1.length) rfl hc (by rw [hrest, hzs])
     rw [zoo hfz hnl, yz] at h1 h2 h3
     unfold zej
     simp only [Mem.upds_append]
     exact ⟨_, S1, w', _, hrun, h1, hp1.trans h2, h3⟩
 · simp at h
end
end Go.Ev
