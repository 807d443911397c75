/- Part of a proof. -/
import Derived.Laws.StructEq
import Derived.Laws.Strings
import Derived.Deep.MidRow
import Derived.Test.YtaadpbhondmahaaGreatDoorT2
set_option linter.all false
namespace Go.Ev
open Go
section inv
variable {S : Nat -> Prop} {w : World} {ι : Loc} {m : Mem} {v : Value}
theorem Rep.bool_inv {b : Bool} (h : Rep S w ι m v (.bool b)) : v = .bool b := by cases h with | ext _ _ h => cases h; rfl
theorem Rep.int_inv {k : IntKind} {n : Int} (h : Rep S w ι m v (.int k n)) : v = .int k n := by cases h with | ext _ _ h => cases h; rfl
theorem Rep.str_inv {s : List UInt8} (h : Rep S w ι m v (.str s)) : v = .string ⟨s.toArray⟩ := by cases h with | ext _ _ h => cases h; rfl
theorem Rep.nilp_inv (h : Rep S w ι m v .nilp) : v = .pointer none := by cases h with | ext _ _ h => cases h; rfl
theorem Rep.nilm_inv (h : Rep S w ι m v .nilm) : v = .map none := by cases h with | ext _ _ h => cases h; rfl
theorem Rep.nili_inv (h : Rep S w ι m v .nili) : v = .nilIface := by cases h with | ext _ _ h => cases h; rfl
theorem Rep.sl_inv {f : Fl} {rs : List Row} (h : Rep S w ι m v (.sl f rs)) : zlA S w v (.sl f rs) := by cases h with | ext _ _ h => exact h
theorem Rep.iface_inv {t : TypeId} {d : D} (h : Rep S w ι m v (.iface t d)) : ∃ u, v = .iface t u /\ Rep S w ι m u d := by
 cases h with
 | ext _ _ h => cases h with | iface _ u _ h => exact ⟨u, rfl, .ext _ _ h⟩
 | iface _ u _ h => exact ⟨u, rfl, h⟩
theorem Rep.agg_inv {ds : List D} (h : Rep S w ι m v (.agg ds)) : ∃ cs : Array Value, v = .agg cs /\ cs.size = ds.length /\ (∀ (i : Nat) (v : Value) (d : D), cs[i]? = some v -> ds[i]? = some d -> Rep S w ι m v d) /\ ∀ d ∈ ds, cell d = true := by
 cases h with
 | ext _ _ h => cases h
 | agg cs _ l h hc => exact ⟨cs, rfl, l, h, hc⟩
theorem Rep.tup_inv {ds : List D} (h : Rep S w ι m v (.tup ds)) : ∃ cs : Array Value, v = .tuple cs /\ cs.size = ds.length /\ ∀ (i : Nat) (v : Value) (d : D), cs[i]? = some v -> ds[i]? = some d -> Rep S w ι m v d := by
 cases h with
 | ext _ _ h => cases h
 | tup cs _ l h => exact ⟨cs, rfl, l, h⟩
theorem Rep.fn_inv {f : Fn} {fi ca : List D} (h : Rep S w ι m v (.fn f fi ca)) : ∃ vf vc : Array Value, v = .func f vf vc /\ vf.size = fi.length /\ vc.size = ca.length /\
 (∀ (i : Nat) (v : Value) (d : D), vf[i]? = some v -> fi[i]? = some d -> Rep S w ι m v d) /\ ∀ (i : Nat) (v : Value) (d : D), vc[i]? = some v -> ca[i]? = some d -> Rep S w ι m v d := by
 cases h with
 | ext _ _ h => cases h
 | fn _ vf vc _ _ l1 l2 h1 h2 => exact ⟨vf, vc, rfl, l1, l2, h1, h2⟩
theorem Rep.oneCell {d : D} (h : Rep S w ι m v d) (hc : cell d = true) : v.oneCell' = true := by
 cases h with
 | ext _ _ h => cases h <;> rfl
 | agg => simp [cell] at hc
 | tup => simp [cell] at hc
 | unk => simp [cell] at hc
 | _ => rfl
theorem Rep.cells1 {d : D} (h : Rep S w ι m v d) (hc : cell d = true) : v.cells = #[v] := by
 have := h.oneCell hc
 cases v <;> simp_all [Value.cells, Value.oneCell']
end inv
theorem zHd {P : Program} {t : TypeId} {ti : TI} (h : zkZ P t = some ti) : t < P.types.size /\ zQh P t = some ti := by
 unfold zkZ at h
 split at h
 · rename_i hl; exact ⟨hl, h⟩
 · cases h
theorem ze8 {P : Program} {t : TypeId} {ti : TI} (h : zkZ P t = some ti) : ∃ (i : TypeInfo) (u : TypeDesc) (z : Value), P.info? t = some i /\ P.underlying t = some u /\ i.zero = some z /\
 zql z.cells.toList = some ti.zero /\ ti.kind = zka u /\ ti.size = i.size /\ ti.bytes = i.bytes := by
 replace h := (zHd h).2
 unfold zQh at h
 cases h1 : P.info? t with
 | none => simp [h1] at h
 | some i =>
   cases h2 : P.underlying t with
   | none => simp [h1, h2] at h
   | some u =>
     cases h3 : i.zero with
     | none => simp [h1, h2, h3] at h
     | some z =>
       simp only [h1, h2, h3] at h
       cases h4 : zql z.cells.toList with
       | none => simp [h4] at h
       | some zc =>
         simp only [h4, yf, yA] at h
         subst h
         exact ⟨i, u, z, rfl, rfl, h3, h4, rfl, rfl, rfl⟩
theorem zcT {P : Program} {t : TypeId} {k : TK} (h : kOf P t = some k) : ∃ u, P.underlying t = some u /\ k = zka u := by
 unfold kOf at h
 cases h1 : zkZ P t with
 | none => simp [h1] at h
 | some ti =>
   obtain ⟨i, u, z, _, hu, _, _, hk, _⟩ := ze8 h1
   simp only [h1, yf, yA] at h
   exact ⟨u, hu, by rw [<- h, hk]⟩
theorem zLB {u : TypeDesc} {k : IntKind} (h : .int k = zka u) : u = .int k := by cases u <;> simp_all [zka]
theorem zHc {u : TypeDesc} (h : .bool = zka u) : u = .bool := by cases u <;> simp_all [zka]
theorem zvm {u : TypeDesc} (h : .str = zka u) : u = .string := by cases u <;> simp_all [zka]
theorem zLA {u : TypeDesc} (h : .ptr = zka u) : ∃ e, u = .pointer e := by cases u <;> simp_all [zka]
theorem zf8 {u : TypeDesc} {e : TypeId} (h : .slice e = zka u) : u = .slice e := by cases u <;> simp_all [zka]
theorem zzf {u : TypeDesc} {n e : Nat} (h : .array n e = zka u) : u = .array n e := by cases u <;> simp_all [zka]
theorem zIG {u : TypeDesc} {k e : TypeId} (h : .map k e = zka u) : u = .map k e := by cases u <;> simp_all [zka]
theorem zzF {u : TypeDesc} {fs : List (TypeId × Nat)} (h : .struct fs = zka u) : ∃ F, u = .struct F /\ fs = F.toList.map fun f => (f.type, f.offset) := by cases u <;> simp_all [zka]
theorem zC8 {u : TypeDesc} (h : .iface = zka u) : ∃ ms, u = .interface ms := by cases u <;> simp_all [zka]
theorem zdm {P : Program} {t : TypeId} {i : TypeInfo} (h : P.info? t = some i) (w : World) : (sizeOf t).run P w = .ok i.size w := by simp [sizeOf, typeInfo, h]
theorem zqd {P : Program} {t : TypeId} {i : TypeInfo} (h : P.info? t = some i) (w : World) : (typeInfo t).run P w = .ok i w := by simp [typeInfo, h]
theorem zgF {P : Program} {t : TypeId} {i : TypeInfo} {z : Value} (h : P.info? t = some i) (hz : i.zero = some z) (w : World) : (zeroValue t).run P w = .ok z w := by simp [zeroValue, typeInfo, h, hz]
theorem zpr {P : Program} {t : TypeId} {u : TypeDesc} (h : P.underlying t = some u) (w : World) : (isAgg t).run P w = .ok (zka u).agg w := by
 simp only [isAgg, Sem.run_bind, run_underlying h, Result.andThen_ok]
 cases u <;> rfl
section
variable (S : Nat -> Prop) (w : World) (ι : Loc) (m : Mem)
theorem zHb (s : ByteArray) : s = ⟨s.data.toList.toArray⟩ := by cases s; simp
theorem zKc {v : Value} {d : D} (h : zMq v = some d) : zlA S w v d /\ cell d = true /\ still d = true := by
 unfold zMq at h
 split at h <;> first | (cases h; refine ⟨?_, rfl, rfl⟩) | cases h
 · exact .bool _
 · exact .int _ _
 · rename_i s; rw [zHb s]; exact .str _
 · exact .nilp
 · exact .nilsl
 · exact .nilm
 · exact .nilf
 · exact .nili
theorem zAa {vs : List Value} {ds : List D} (h : zql vs = some ds) : vs.length = ds.length /\ (∀ (i : Nat) (v : Value) (d : D), vs[i]? = some v -> ds[i]? = some d -> zlA S w v d) /\ (∀ d ∈ ds, cell d = true) /\ ∀ d ∈ ds, still d = true := by
 induction vs generalizing ds with
 | nil => simp only [zql, yA] at h; subst h; simp
 | cons v r ih =>
   simp only [zql] at h
   obtain ⟨d, hd, h⟩ := zaa h
   obtain ⟨l, hl, h⟩ := zaa h
   cases h
   obtain ⟨i1, i2, i3, i4⟩ := ih hl
   obtain ⟨h1, h2, h3⟩ := zKc S w hd
   refine ⟨by simp [i1], fun i u e hu he => ?_, ?_, ?_⟩
   · cases i with
     | zero => simp only [yH, yA] at hu he; subst hu he; exact h1
     | succ i => simp only [yX] at hu he; exact i2 i u e hu he
   · simpa [h2] using i3
   · simpa [h3] using i4
theorem zQC {v : Value} {d : D} (h : ofV v = some d) : Rep S w ι m v d := by
 unfold ofV at h
 split at h <;> first | (cases h; refine .ext _ _ ?_) | skip
 · rename_i cs
   obtain ⟨l, hl, h⟩ := zaa h
   cases h
   obtain ⟨i1, i2, i3, _⟩ := zAa S w hl
   refine .agg cs l (by simpa using i1) (fun i v d hv hd => .ext _ _ (i2 i v d (by simpa using hv) hd)) i3
 · exact .bool _
 · exact .int _ _
 · rename_i s; rw [zHb s]; exact .str _
 · exact .nilp
 · exact .nilsl
 · exact .nilm
 · exact .nilf
 · exact .nili
 · cases h
theorem zz8 {e : Env} {a : Act} (h : ∀ t, Rep S w ι m (a.tmps.getD t undef) (e t)) (x : Operand) : Rep S w ι m (a.eval x) (opd e x) := by
 cases x with
 | tmp t => exact h t
 | const v =>
   simp only [opd]
   cases hv : ofV v with
   | none => exact .unk _
   | some d => exact zQC S w ι m hv
 | global g => exact .unk _
 | func f => exact .fn (.func f) #[] #[] [] [] rfl rfl (fun i v d h => by simp at h) (fun i v d h => by simp at h)
end
theorem zKW (x y : List UInt8) : zdf x y = Op.bytesLess x y := by
 induction x generalizing y with
 | nil => cases y <;> rfl
 | cons a x ih => cases y with
   | nil => rfl
   | cons b y => simp only [zdf, Op.bytesLess, ih]
theorem zsB (l : List UInt8) : (⟨l.toArray⟩ : ByteArray).toList = l := by rw [ByteArray.toList_eq]
theorem zNC (x y : List UInt8) : (⟨x.toArray⟩ : ByteArray) ++ ⟨y.toArray⟩ = ⟨(x ++ y).toArray⟩ := by
 apply ByteArray.ext
 simp
theorem zoT (l : List UInt8) : (⟨l.toArray⟩ : ByteArray).size = l.length := by simp [ByteArray.size]
section
variable {S : Nat -> Prop} {w : World} {ι : Loc} {m : Mem} (P : Program)
theorem zMM (op : BinOp) (t : TypeId) (xo yo : Operand) (k k' : IntKind) (a b : Int) : (eqGuard op t xo yo (.int k a) (.int k' b)).run P w = .ok () w := by
 unfold eqGuard; split <;> rfl
theorem zML (op : BinOp) (t : TypeId) (xo yo : Operand) (a b : ByteArray) : (eqGuard op t xo yo (.string a) (.string b)).run P w = .ok () w := by
 unfold eqGuard; split <;> rfl
theorem zKF {op : BinOp} {t : TypeId} {k : IntKind} {a b : Int} {d : D} (h : zEK k a b op = some d) : ∃ v, (binOp op t (.int k a) (.int k b)).run P w = .ok v w /\ Rep S w ι m v d := by
 cases op <;> simp only [zEK, yA, reduceCtorEq] at h <;> first
  | (subst h; exact ⟨_, by simp only [binOp, Op.intArith, Op.intBits, Op.intCmp, ne_eq, not_true_eq_false, if_false]; rfl, .ext _ _ (by constructor)⟩)
  | (split at h
     · cases h
     · rename_i hb
       simp only [yA] at h
       subst h
       exact ⟨_, by simp only [binOp, Op.intDiv, ne_eq, not_true_eq_false, if_false, hb]; rfl, .ext _ _ (by constructor)⟩)
theorem zHY {op : BinOp} {t : TypeId} {k k' : IntKind} {a b : Int} {d : D} (h : zqv k k' a b op = some d) : ∃ v, (binOp op t (.int k a) (.int k' b)).run P w = .ok v w /\ Rep S w ι m v d := by
 unfold zqv at h
 split at h
 · split at h
   · cases h
   · rename_i hb; simp only [yA] at h; subst h
     exact ⟨_, by simp only [binOp, Op.shift, if_neg hb]; rfl, .ext _ _ (by constructor)⟩
 · split at h
   · cases h
   · rename_i hb; simp only [yA] at h; subst h
     exact ⟨_, by simp only [binOp, Op.shift, if_neg hb]; rfl, .ext _ _ (by constructor)⟩
 · split at h
   · rename_i hk; subst hk; exact zKF P h
   · cases h
theorem zKz {op : BinOp} {t : TypeId} {x y : List UInt8} {d : D} (h : zQU x y op = some d) : ∃ v, (binOp op t (.string ⟨x.toArray⟩) (.string ⟨y.toArray⟩)).run P w = .ok v w /\ Rep S w ι m v d := by
 have hle : ∀ n : Nat, n <= room -> ¬ ((n : Int) > IntKind.i64.max) := by
  intro n hn; simp only [room] at hn; simp only [IntKind.max, IntKind.signed, IntKind.bits]; simp; omega
 cases op <;> simp only [zQU, yA, reduceCtorEq] at h
 case add =>
  obtain ⟨_, h1, h⟩ := zaa h
  have h1 := YF (zdA h1)
  simp only [yA] at h; subst h
  exact ⟨_, by simp only [binOp, Op.stringOp, zoT, zNC, if_neg (hle _ h1)]; rfl, .ext _ _ (.str _)⟩
 all_goals
  subst h
  refine ⟨_, by simp only [binOp, Op.stringOp, zsB, <- zKW]; rfl, .ext _ _ (by constructor)⟩
end
end Go.Ev
