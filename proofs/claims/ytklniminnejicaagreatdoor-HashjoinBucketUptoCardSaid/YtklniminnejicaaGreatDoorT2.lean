/- HashjoinBucket: for all rows, key columns, numbers of parts and levels that hold together at most 1048576 values and letters, the law returns true. Condition: that bound (the Upto form). -/
import Derived.Laws.StructEq
import Derived.Attr
import Derived.Below
import Derived.Test.YtklniminnejicaaGreatDoorT1
set_option linter.all false
namespace Go.Ev
def zfH : Value → Option D
 | .bool b => some (.bool b)
 | .int k n => some (.int k n)
 | .string s => some (.str s.data.toList)
 | .pointer none => some .nilp
 | .slice none 0 0 => some (.sl .nil [])
 | .map none => some .nilm
 | .nilFunc => some .nilf
 | .nilIface => some .nili
 | _ => none
def zfc : List Value → Option (List D)
 | [] => some []
 | v :: r => bnd (zfH v) fun d => bnd (zfc r) fun l => some (d :: l)
def ofV : Value → Option D
 | .agg cs => bnd (zfc cs.toList) fun l => some (.agg l)
 | .bool b => some (.bool b)
 | .int k n => some (.int k n)
 | .string s => some (.str s.data.toList)
 | .pointer none => some .nilp
 | .slice none 0 0 => some (.sl .nil [])
 | .map none => some .nilm
 | .nilFunc => some .nilf
 | .nilIface => some .nili
 | _ => none
def zvs : Option D → D
 | some d => d
 | none => .unk
inductive TK where
 | int (k : IntKind) | bool | str | ptr | slice (e : TypeId) | array (n : Nat) (e : TypeId) | map (k e : TypeId)
 | struct (fs : List (TypeId × Nat)) | func | iface | tuple | other
 deriving Inhabited
structure TI where
 kind : TK
 size : Nat
 bytes : Nat
 zero : List D
 deriving Inhabited
def zdj : TypeDesc → TK
 | .int k => .int k
 | .bool => .bool
 | .string => .str
 | .pointer _ => .ptr
 | .slice e => .slice e
 | .array n e => .array n e
 | .map k e => .map k e
 | .struct fs => .struct (fs.toList.map fun f => (f.type, f.offset))
 | .func _ _ _ => .func
 | .interface _ => .iface
 | .tuple _ => .tuple
 | _ => .other
def TK.agg : TK → Bool
 | .struct _ | .array _ _ => true
 | _ => false
def zvc (P : Program) (t : TypeId) : Option TI :=
 match P.info? t, P.underlying t with
 | some i, some u =>
   match i.zero with
   | some z => (zfc z.cells.toList).map fun zc => ⟨zdj u, i.size, i.bytes, zc⟩
   | none => none
 | _, _ => none
def zbn (P : Program) (t : TypeId) : Option TI := if t < P.types.size then zvc P t else none
def kOf (P : Program) (t : TypeId) : Option TK := (zbn P t).map TI.kind
def zov (P : Program) (t : TypeId) : Bool :=
 match P.underlying t with
 | some (.struct fs) => !P.stoodInHeld t && !P.eqGuardType P.depth t && fs.toList.zipIdx.all (fun p => p.1.name != "_" && p.1.offset == p.2)
 | _ => false
def opd (e : Env) : Operand → D
 | .tmp t => e t
 | .const v => zvs (ofV v)
 | .global _ => .unk
 | .func f => .fn (.func f) [] []
def cellsOf : D → List D
 | .agg cs => cs
 | .bool b => [.bool b]
 | .int k n => [.int k n]
 | .str s => [.str s]
 | .nilp => [.nilp]
 | .ptr b g r o => [.ptr b g r o]
 | .eptr r o => [.eptr r o]
 | .sl f r => [.sl f r]
 | .own b g o l => [.own b g o l]
 | .nilm => [.nilm]
 | .map b g => [.map b g]
 | .iter b g => [.iter b g]
 | .fn f a b => [.fn f a b]
 | .nilf => [.nilf]
 | .iface t v => [.iface t v]
 | .nili => [.nili]
 | .tup l => [.tup l]
 | .unk => [.unk]
def only : List D → Option D
 | [d] => some d
 | _ => none
def zqv (k : TK) (cs : List D) : Option D := if k.agg then some (.agg cs) else only cs
def zaG : List D → Bool
 | [] => true
 | d :: r => cell d && zaG r
def zau : List D → Bool
 | [] => true
 | d :: r => still d && zau r
def zbM : List Row → Bool
 | [] => true
 | d :: r => zau d && zbM r
def cut {α : Type} (l : List α) (off len : Nat) : List α := if off = 0 ∧ len = l.length then l else (l.drop off).take len
def put {α : Type} (l : List α) (off : Nat) (new : List α) : List α := l.take off ++ (new ++ l.drop (off + new.length))
def part (ti : TI) (cs : List D) (off : Nat) : Option D :=
 bnd (ok (decide ((cut cs off ti.size).length = ti.size))) fun _ => zqv ti.kind (cut cs off ti.size)
def zkP : D → D → TK → Option Bool
 | .bool a, .bool b, .bool => some (a == b)
 | .int j a, .int k b, .int _ => if j = k then some (a == b) else none
 | .str a, .str b, .str => some (a == b)
 | _, _, _ => none
def zb2 (P : Program) : List (TypeId × Nat) → List D → List D → Option Bool
 | [], [], [] => some true
 | f :: fs, x :: xs, y :: ys => bnd (bnd (kOf P f.1) (zkP x y)) fun a => bnd (zb2 P fs xs ys) fun b => some (a && b)
 | _, _, _ => none
def zx7 (P : Program) (xs ys : List D) : TK → Option Bool
 | .struct fs => zb2 P fs xs ys
 | _ => none
def zjB (c : Bool) : D → D → TK → Option Bool
 | .bool a, .bool b, .bool => some (a == b)
 | .nilp, .nilp, .ptr => some true
 | .sl .nil _, .sl .nil _, .slice _ => some true
 | .sl .nil _, .sl .any _, .slice _ => some false
 | .sl .nil _, .sl .full _, .slice _ => some false
 | .sl .any _, .sl .nil _, .slice _ => some false
 | .sl .full _, .sl .nil _, .slice _ => some false
 | .own _ _ _ _, .sl .nil _, .slice _ => some false
 | .nili, .nili, .iface => if c then some true else none
 | .iface _ _, .nili, .iface => some false
 | .nili, .iface _ _, .iface => some false
 | _, _, _ => none
def deq (P : Program) (t : TypeId) (c : Bool) : D → D → Option Bool
 | .agg xs, .agg ys => bnd (ok (zov P t)) fun _ => bnd (kOf P t) (zx7 P xs ys)
 | x, y => bnd (kOf P t) (zjB c x y)
def zbw : List UInt8 → List UInt8 → Bool
 | _, [] => false
 | [], _ :: _ => true
 | a :: x, b :: y => a < b || (a == b && zbw x y)
def zlJ (k : IntKind) (x y : Int) : BinOp → Option D
 | .add => some (.int k (k.wrap (x + y)))
 | .sub => some (.int k (k.wrap (x - y)))
 | .mul => some (.int k (k.wrap (x * y)))
 | .quo => if y = 0 then none else some (.int k (k.wrap (x.tdiv y)))
 | .rem => if y = 0 then none else some (.int k (x.tmod y))
 | .and => some (.int k (k.wrap (BitVec.ofInt k.bits x &&& BitVec.ofInt k.bits y).toNat))
 | .or => some (.int k (k.wrap (BitVec.ofInt k.bits x ||| BitVec.ofInt k.bits y).toNat))
 | .xor => some (.int k (k.wrap (BitVec.ofInt k.bits x ^^^ BitVec.ofInt k.bits y).toNat))
 | .andNot => some (.int k (k.wrap (BitVec.ofInt k.bits x &&& ~~~(BitVec.ofInt k.bits y)).toNat))
 | .eql => some (.bool (x == y))
 | .neq => some (.bool (x != y))
 | .lss => some (.bool (decide (x < y)))
 | .leq => some (.bool (decide (x ≤ y)))
 | .gtr => some (.bool (decide (x > y)))
 | .geq => some (.bool (decide (x ≥ y)))
 | .shl => none
 | .shr => none
def zhO : Nat := 140737488355328
def ztf (x y : List UInt8) : BinOp → Option D
 | .add => bnd (ok (decide (x.length + y.length ≤ zhO))) fun _ => some (.str (x ++ y))
 | .eql => some (.bool (x == y))
 | .neq => some (.bool !(x == y))
 | .lss => some (.bool (zbw x y))
 | .leq => some (.bool (zbw x y || x == y))
 | .gtr => some (.bool !(zbw x y || x == y))
 | .geq => some (.bool !(zbw x y))
 | _ => none
def zeL (k k' : IntKind) (x y : Int) : BinOp → Option D
 | .shl => if y < 0 then none else some (.int k (k.wrap (x * 2 ^ min y.toNat k.bits)))
 | .shr => if y < 0 then none else some (.int k (x.fdiv (2 ^ min y.toNat k.bits)))
 | op => if k = k' then zlJ k x y op else none
def zpD (P : Program) (t : TypeId) (c : Bool) (x y : D) : BinOp → Option D
 | .eql => bnd (deq P t c x y) fun b => some (.bool b)
 | .neq => bnd (deq P t c x y) fun b => some (.bool !b)
 | _ => none
def zpJ (P : Program) (op : BinOp) (t : TypeId) (c : Bool) : D → D → Option D
 | .int k a, .int k' b => zeL k k' a b op
 | .str a, .str b => ztf a b op
 | x, y => zpD P t c x y op
def dun : UnOp → D → Option D
 | .neg, .int k n => some (.int k (k.wrap (0 - n)))
 | .xor, .int k n => some (.int k (k.wrap (BitVec.ofInt k.bits (if k.signed then -1 else k.max) ^^^ BitVec.ofInt k.bits n).toNat))
 | .not, .bool b => some (.bool !b)
 | _, _ => none
def zlM (P : Program) (f : Nat) : D → TK → Option D
 | .agg cs, .struct fs => bnd fs[f]? fun p => bnd (zbn P p.1) fun ti => part ti cs p.2
 | _, _ => none
def zpC (P : Program) (t : TypeId) (x : D) (f : Nat) : Option D := bnd (kOf P t) (zlM P f x)
def zjA (P : Program) (n : Int) : D → TK → Option D
 | .str s, .str => bnd (ok (decide (0 ≤ n))) fun _ => bnd s[n.toNat]? fun b => some (.int .u8 b.toNat)
 | .agg cs, .array len e => bnd (zbn P e) fun ti => bnd (ok (decide (0 ≤ n) && decide (n < len))) fun _ => part ti cs (n.toNat * ti.size)
 | _, _ => none
def zpB (P : Program) (t : TypeId) (x : D) : D → Option D
 | .int _ n => bnd (kOf P t) (zjA P n x)
 | _ => none
def bound (dflt top : Nat) : Option D → Option Nat
 | none => some dflt
 | some (.int _ n) => bnd (ok (decide (0 ≤ n) && decide (n ≤ top))) fun _ => some n.toNat
 | some _ => none
def zc8 (place : Nat → Option (Nat × Nat)) (cells : List D) : List (Nat × D) → Option (List D)
 | [] => some cells
 | p :: rest => bnd (place p.1) fun q =>
     bnd (ok (decide ((cellsOf p.2).length = q.2) && decide (q.1 + q.2 ≤ cells.length) && zaG (cellsOf p.2))) fun _ => zc8 place (put cells q.1 (cellsOf p.2)) rest
def zdp (P : Program) (fs : List (TypeId × Nat)) (i : Nat) : Option (Nat × Nat) := bnd fs[i]? fun p => bnd (zbn P p.1) fun ti => some (p.2, ti.size)
def zlO (P : Program) (parts : List (Nat × D)) (z : List D) : TK → Option D
 | .struct fs => bnd (zc8 (zdp P fs) z parts) fun l => some (.agg l)
 | .array _ e => bnd (zbn P e) fun ti => bnd (zc8 (fun i => some (i * ti.size, ti.size)) z parts) fun l => some (.agg l)
 | _ => none
def zpI (P : Program) (t : TypeId) (parts : List (Nat × D)) : Option D := bnd (zbn P t) fun ti => zlO P parts ti.zero ti.kind
def zpY : Row → Option UInt8
 | [.int .u8 n] => some (UInt8.ofNat n.toNat)
 | _ => none
def zdH : List Row → Option (List UInt8)
 | [] => some []
 | r :: l => bnd (zpY r) fun b => bnd (zdH l) fun bs => some (b :: bs)
def zcN (b : UInt8) : Row := [.int .u8 b.toNat]
def zx3 : D → D → Option D
 | .int k a, .int k' b => if k = k' then some (.int k (if b < a then b else a)) else none
 | _, _ => none
def zx4 : D → D → Option D
 | .int k a, .int k' b => if k = k' then some (.int k (if b > a then b else a)) else none
 | _, _ => none
def zou (f : D → D → Option D) : D → List D → Option D
 | x, [] => some x
 | x, y :: r => bnd (f x y) fun z => zou f z r
end Go.Ev
namespace Go.Ev
structure St where
 env : Env
 mem : Mem
inductive Ex where
 | normal | ret | exit (id : Nat)
structure Res where
 val : D
 args : List Blk
 esc : List Blk
structure Cfg where
 P : Program
 prim : FuncId → Option (List D → Option D)
 byRef : FuncId → Bool
 fine : FuncId → Bool
def zaQ : Option Blk → Nat
 | some b => b.gen + 1
 | none => 0
structure RB where
 fz : Bool
 cl : Bool
 sz : Nat
 rs : List Row
def znj (g : Nat) : Option Blk → M RB
 | some (.rows g' fz cl sz rs) => do
   M.guard (decide (g' = g))
   pure ⟨fz, cl, sz, rs⟩
 | _ => .fail
def zc7 (b : Nm) (g : Nat) : M RB := do
 let o ← M.peek b
 znj g o
def zd7 (b : Nm) (sz : Nat) (rs : List Row) (cl : Bool) : M (Nat × Ups) := do
 let o ← M.peek b
 pure (zaQ o, [(b, .rows (zaQ o) false cl sz rs)])
def zbg {α : Type} (f : α → M (α × List Nm)) : List α → M (List α × List Nm)
 | [] => pure ([], [])
 | d :: r => do
   let p ← f d
   let q ← zbg f r
   pure (p.1 :: q.1, p.2 ++ q.2)
def zcf : Nat → D → M (D × List Nm)
 | n + 1, .own b g off len => do
   let k ← zc7 b g
   M.guard (decide (off + len ≤ k.rs.length))
   if k.cl then pure (.sl .any (cut k.rs off len), [b])
   else do
    let p ← zbg (zbg (zcf n)) (cut k.rs off len)
    M.guard (zbM p.1)
    pure (.sl .any p.1, b :: p.2)
 | n + 1, .agg cs => do
   let p ← zbg (zcf n) cs
   pure (.agg p.1, p.2)
 | n + 1, .tup cs => do
   let p ← zbg (zcf n) cs
   pure (.tup p.1, p.2)
 | 0, .own b g off len => pure (.own b g off len, [])
 | 0, .agg cs => pure (.agg cs, [])
 | 0, .tup cs => pure (.tup cs, [])
 | _, .bool b => pure (.bool b, [])
 | _, .int k n => pure (.int k n, [])
 | _, .str s => pure (.str s, [])
 | _, .nilp => pure (.nilp, [])
 | _, .ptr b g r o => pure (.ptr b g r o, [])
 | _, .eptr r o => pure (.eptr r o, [])
 | _, .sl f r => pure (.sl f r, [])
 | _, .nilm => pure (.nilm, [])
 | _, .map b g => pure (.map b g, [])
 | _, .iter b g => pure (.iter b g, [])
 | _, .fn f a b => pure (.fn f a b, [])
 | _, .nilf => pure (.nilf, [])
 | _, .iface t v => pure (.iface t v, [])
 | _, .nili => pure (.nili, [])
 | _, .unk => pure (.unk, [])
def zkM (b : Nm) : Option Blk → M (Nm × Blk)
 | some (.rows g _ cl sz rs) => pure (b, .rows g true cl sz rs)
 | _ => .fail
def zb6 : List Nm → M Ups
 | [] => pure []
 | b :: l => do
   let o ← M.peek b
   let u ← zkM b o
   let us ← zb6 l
   pure (u :: us)
def zkB (size : Nat) (rs : List Row) : Bool := rs.all fun r => r.length == size
def zpK (P : Program) (T : Nat) (t : TypeId) : M (D × Ups) := do
 let ti ← M.lift (zbn P t)
 M.guard (decide (0 < ti.size) && decide (ti.zero.length = ti.size) && zaG ti.zero)
 let p ← zd7 (.loc T 0) ti.size [ti.zero] (zau ti.zero)
 pure (.ptr (.loc T 0) p.1 0 0, p.2)
def zx9 (P : Program) (T : Nat) (t : TypeId) (x : D) : M (D × Ups) := do
 let ti ← M.lift (zbn P t)
 M.guard (decide (0 < ti.size) && decide ((cellsOf x).length = ti.size) && zaG (cellsOf x))
 let p ← zd7 (.loc T 0) ti.size [cellsOf x] (zau (cellsOf x))
 pure (.ptr (.loc T 0) p.1 0 0, p.2)
def zpA (ti : TI) : D → M D
 | .ptr b g r o => do
   let k ← zc7 b g
   let row ← M.lift k.rs[r]?
   M.lift (part ti row o)
 | .eptr row o => M.lift (part ti row o)
 | _ => .fail
def zsz (P : Program) (t : TypeId) (d : D) : M D := do
 let ti ← M.lift (zbn P t)
 zpA ti d
def zox (ti : TI) (x : D) : D → M Ups
 | .ptr b g r o => do
   let k ← zc7 b g
   let row ← M.lift k.rs[r]?
   M.guard (!k.fz && decide ((cellsOf x).length = ti.size) && zaG (cellsOf x) && decide (o + ti.size ≤ row.length))
   pure [(b, .rows g k.fz (k.cl && zau (cellsOf x)) k.sz (k.rs.set r (put row o (cellsOf x))))]
 | _ => .fail
def zpx (P : Program) (t : TypeId) (d x : D) : M Ups := do
 let ti ← M.lift (zbn P t)
 zox ti x d
def zkX (n : Nat) : D → Option D
 | .ptr b g r o => some (.ptr b g r (o + n))
 | .eptr row o => some (.eptr row (o + n))
 | _ => none
def zfi (P : Program) (d : D) (f : Nat) : TK → Option D
 | .struct fs => bnd fs[f]? fun p => bnd (zbn P p.1) fun ti => bnd (ok (decide (0 < ti.size))) fun _ => zkX p.2 d
 | _ => none
def zgf (P : Program) (t : TypeId) (d : D) (f : Nat) : Option D := bnd (kOf P t) (zfi P d f)
def zeM (ti : TI) (n : Int) : D → M D
 | .sl _ rs => do
   M.guard (decide (0 ≤ n))
   let row ← M.lift rs[n.toNat]?
   M.guard (decide (row.length = ti.size))
   pure (.eptr row 0)
 | .own b g off len => do
   M.guard (decide (0 ≤ n) && decide (n < len))
   let k ← zc7 b g
   M.guard (decide (k.sz = ti.size))
   pure (.ptr b g (off + n.toNat) 0)
 | _ => .fail
def zeb (P : Program) (n : Int) (d : D) : TK → M D
 | .slice e => do
   let ti ← M.lift (zbn P e)
   zeM ti n d
 | .array len e => do
   let ti ← M.lift (zbn P e)
   M.guard (decide (0 ≤ n) && decide (n < len) && decide (0 < ti.size))
   M.lift (zkX (n.toNat * ti.size) d)
 | _ => .fail
def zge (P : Program) (t : TypeId) (d : D) : D → M D
 | .int _ n => do
   let k ← M.lift (kOf P t)
   zeb P n d k
 | _ => .fail
def zeK (f : Fl) (mx : Bool) : Fl :=
 match f, mx with
 | .nil, _ => .nil
 | .any, _ => .any
 | .full, true => .full
 | .full, false => .any
def zlE (P : Program) (lo hi mx : Option D) : D → TK → M D
 | .str s, .str => do
   M.guard mx.isNone
   let h ← M.lift (bound s.length s.length hi)
   let l ← M.lift (bound 0 h lo)
   pure (.str (cut s l (h - l)))
 | .sl f rs, .slice e => do
   let ti ← M.lift (zbn P e)
   let m ← M.lift (bound rs.length rs.length mx)
   let h ← M.lift (bound (if mx.isSome then m + 1 else rs.length) m hi)
   M.guard (decide (h ≤ m))
   let l ← M.lift (bound 0 h lo)
   M.guard (decide (l = 0) || zkB ti.size rs)
   pure (.sl (if mx.isSome && f != .nil then zeK .full (h == m) else zeK f (h == m)) (cut rs l (h - l)))
 | .own b g off len, .slice e => do
   M.guard mx.isNone
   let ti ← M.lift (zbn P e)
   let h ← M.lift (bound len len hi)
   let l ← M.lift (bound 0 h lo)
   let k ← zc7 b g
   M.guard (decide (k.sz = ti.size))
   pure (.own b g (off + l) (h - l))
 | _, _ => .fail
def zpy (P : Program) (t : TypeId) (x : D) (lo hi mx : Option D) : M D := do
 let k ← M.lift (kOf P t)
 zlE P lo hi mx x k
def ze1 : D → M (List Row × List Nm × Bool)
 | .sl _ rs => pure (rs, [], true)
 | .str s => pure (s.map zcN, [], true)
 | .own b g off len => do
   let k ← zc7 b g
   M.guard (decide (off + len ≤ k.rs.length))
   if k.cl then pure (cut k.rs off len, [], true)
   else do
    let p ← zbg (zbg (zcf 8)) (cut k.rs off len)
    pure (p.1, p.2, zbM p.1)
 | _ => .fail
def zdu : TK → Option TypeId
 | .slice e => some e
 | _ => none
def zfE : TK → Bool
 | .slice _ | .str => true
 | _ => false
def zhq (T : Nat) (ti : TI) (new : List Row) (l : List Nm) (st : Bool) : D → M (D × Ups)
 | .own b g off len => do
   let fz ← zb6 l
   let k ← zc7 b g
   M.guard (!k.fz && decide (off + len ≤ k.rs.length) && decide (k.sz = ti.size) && decide ((len + new.length) * ti.bytes ≤ zhO) && !(l.contains b))
   pure (.own b (g + 1) 0 (len + new.length), fz ++ [(b, .rows (g + 1) false (k.cl && st) k.sz (cut k.rs off len ++ new))])
 | .sl f rs => do
   M.guard (f != .any && zkB ti.size rs)
   if new.isEmpty then pure (.sl f rs, [])
   else do
    let fz ← zb6 l
    M.guard (decide ((rs.length + new.length) * ti.bytes ≤ zhO) && !(l.contains (.loc T 0)))
    let p ← zd7 (.loc T 0) ti.size (rs ++ new) st
    pure (.own (.loc T 0) p.1 0 (rs.length + new.length), fz ++ p.2)
 | _ => .fail
def zdG : TK → Bool
 | .int _ => true
 | _ => false
def zlQ (T : Nat) (ti : TI) : D → D → M (D × Ups)
 | .sl f rs, .int _ n => do
   M.guard (f != .any && rs.isEmpty && decide (0 < n) && decide (n * ti.bytes ≤ (zhO : Int)) && decide (0 < ti.size) && decide (0 < ti.bytes) && decide (ti.zero.length = ti.size) && zaG ti.zero)
   let p ← zd7 (.loc T 0) ti.size (List.replicate n.toNat ti.zero) (zau ti.zero)
   pure (.own (.loc T 0) p.1 0 n.toNat, p.2)
 | _, _ => .fail
def zlR (P : Program) (T : Nat) (s x : D) : List TypeId → M (D × Ups)
 | [t, tx] => do
   let k ← M.lift (kOf P t)
   let e ← M.lift (zdu k)
   let ti ← M.lift (zbn P e)
   let kx ← M.lift (kOf P tx)
   if zdG kx then zlQ T ti s x else do
   M.guard (zfE kx)
   let q ← ze1 x
   M.guard (zkB ti.size q.1 && decide (0 < ti.size) && decide (0 < ti.bytes) && decide (ti.zero.length = ti.size) && zaG ti.zero)
   zhq T ti q.1 q.2.1 q.2.2 s
 | _ => .fail
def zsy (T : Nat) (ti : TI) : D → D → M (D × Ups)
 | .int _ l, .int _ c => do
   M.guard (decide (0 ≤ l) && decide (l ≤ c) && decide (ti.bytes * c ≤ 281474976710656) && decide (c ≤ 9223372036854775807) && decide (0 < ti.size) && decide (ti.zero.length = ti.size) && zaG ti.zero)
   let p ← zd7 (.loc T 0) ti.size (List.replicate l.toNat ti.zero) (zau ti.zero)
   pure (.own (.loc T 0) p.1 0 l.toNat, p.2)
 | _, _ => .fail
def zgd (P : Program) (T : Nat) (t : TypeId) (l c : D) : M (D × Ups) := do
 let k ← M.lift (kOf P t)
 let e ← M.lift (zdu k)
 let ti ← M.lift (zbn P e)
 zsy T ti l c
def zgb (size : Nat) (rows : List Row) : List (Nat × D) → Option (List Row)
 | [] => some rows
 | p :: rest => bnd (ok (decide ((cellsOf p.2).length = size) && decide (p.1 < rows.length) && zaG (cellsOf p.2))) fun _ => zgb size (rows.set p.1 (cellsOf p.2)) rest
def zn5 (p : Nat × D) : M ((Nat × D) × List Nm) := do
 let q ← zcf 8 p.2
 pure ((p.1, q.1), q.2)
def zfj (P : Program) (T : Nat) (t : TypeId) (len : Nat) (parts : List (Nat × D)) : M (D × Ups) := do
 let k ← M.lift (kOf P t)
 let e ← M.lift (zdu k)
 let ti ← M.lift (zbn P e)
 M.guard (decide (0 < ti.size) && decide (len * ti.size ≤ 16777216) && decide (ti.zero.length = ti.size) && zaG ti.zero)
 let ps ← zbg zn5 parts
 let rs ← M.lift (zgb ti.size (List.replicate len ti.zero) ps.1)
 let fz ← zb6 ps.2
 M.guard (!(ps.2.contains (.loc T 0)))
 let p ← zd7 (.loc T 0) ti.size rs (zbM rs)
 pure (.own (.loc T 0) p.1 0 len, fz ++ p.2)
def zkq (g : Nat) : Option Blk → M (Bool × List Ent × Nat)
 | some (.map g' cl es clock) => do
   M.guard (decide (g' = g))
   pure (cl, es, clock)
 | _ => .fail
def zd8 (b : Nm) (g : Nat) : M (Bool × List Ent × Nat) := do
 let o ← M.peek b
 zkq g o
def zlI : D → TK → M D
 | .str s, .str => pure (.int .i64 s.length)
 | .sl _ rs, .slice _ => pure (.int .i64 rs.length)
 | .own _ _ _ len, .slice _ => pure (.int .i64 len)
 | .nilm, .map _ _ => pure (.int .i64 0)
 | .map b g, .map _ _ => do
   let k ← zd8 b g
   pure (.int .i64 k.2.1.length)
 | _, .array n _ => pure (.int .i64 n)
 | _, _ => .fail
def zx5 (P : Program) (x : D) : List TypeId → M D
 | [t] => do
   let k ← M.lift (kOf P t)
   zlI x k
 | _ => .fail
def zxg : D → TK → M D
 | .sl f rs, .slice _ => do
   M.guard (f != .any)
   pure (.int .i64 rs.length)
 | _, _ => .fail
def zyS (P : Program) (x : D) : List TypeId → M D
 | [t] => do
   let k ← M.lift (kOf P t)
   zxg x k
 | _ => .fail
def zuO : TK → Bool
 | .int .u8 => true
 | _ => false
def zgR : D → M (List Row)
 | .sl _ rs => pure rs
 | .own b g off len => do
   let k ← zc7 b g
   M.guard (decide (off + len ≤ k.rs.length) && decide (k.sz = 1))
   pure (cut k.rs off len)
 | _ => .fail
def zcF (P : Program) (T : Nat) : D → TK → TK → M (D × Ups)
 | .int _ n, _, .int k => pure (.int k (k.wrap n), [])
 | .str s, _, .str => pure (.str s, [])
 | .str s, .str, .slice e => do
   let ke ← M.lift (kOf P e)
   M.guard (zuO ke)
   let p ← zd7 (.loc T 0) 1 (s.map zcN) true
   pure (.own (.loc T 0) p.1 0 s.length, p.2)
 | x, .slice e, .str => do
   let ke ← M.lift (kOf P e)
   M.guard (zuO ke)
   let rs ← zgR x
   let bs ← M.lift (zdH rs)
   pure (.str bs, [])
 | _, _, _ => .fail
def ziW (P : Program) (T : Nat) (src dst : TypeId) (x : D) : M (D × Ups) := do
 let ks ← M.lift (kOf P src)
 let kd ← M.lift (kOf P dst)
 zcF P T x ks kd
def zdl : D → D → Option Bool
 | .int j a, .int k b => if j = k then some (a == b) else none
 | .str a, .str b => some (a == b)
 | .bool a, .bool b => some (a == b)
 | _, _ => none
def zfJ (k : D) : List Ent → Nat → Option (Option (Nat × D))
 | [], _ => some none
 | e :: es, i => bnd (zdl k e.key) fun b => if b then some (some (i, e.val)) else zfJ k es (i + 1)
def zeI : D → TK → Bool
 | .int k' _, .int k => decide (k = k')
 | .str _, .str => true
 | .bool _, .bool => true
 | _, _ => false
def zel : TK → Option (TypeId × TypeId)
 | .map k e => some (k, e)
 | _ => none
def zmL : Option D → Bool
 | none => true
 | some (.int _ _) => true
 | some _ => false
def zoj (b : Nm) (mk : Nat → Blk) (v : Nat → D) : M (D × Ups) := do
 let o ← M.peek b
 pure (v (zaQ o), [(b, mk (zaQ o))])
def ziU (P : Program) (T : Nat) (t : TypeId) (r : Option D) : M (D × Ups) := do
 let k ← M.lift (kOf P t)
 let _ ← M.lift (zel k)
 M.guard (zmL r)
 zoj (.loc T 0) (fun g => .map g true [] 0) (fun g => .map (.loc T 0) g)
def zmS : D → M (List Ent)
 | .nilm => pure []
 | .map b g => do
   let k ← zd8 b g
   pure k.2.1
 | _ => .fail
def zpk (z : D) : Option (Nat × D) → D
 | some p => p.2
 | none => z
def zlH (P : Program) (t : TypeId) (x k : D) (commaOk : Bool) : M D := do
 let kt ← M.lift (kOf P t)
 let q ← M.lift (zel kt)
 let ke ← M.lift (kOf P q.1)
 let ti ← M.lift (zbn P q.2)
 M.guard (zeI k ke)
 let z ← M.lift (zqv ti.kind ti.zero)
 let es ← zmS x
 let r ← M.lift (zfJ k es 0)
 pure (if commaOk then .tup [zpk z r, .bool r.isSome] else zpk z r)
def zo3 (k v : D) (es : List Ent) (clock : Nat) : Option (Nat × D) → List Ent × Nat
 | some p => (es.modify p.1 fun e => ⟨k, v, e.born⟩, clock)
 | none => (es ++ [⟨k, v, clock⟩], clock + 1)
def zfh (k v : D) : D → M Ups
 | .map b g => do
   let q ← zd8 b g
   let r ← M.lift (zfJ k q.2.1 0)
   pure [(b, .map g (q.1 && zau (cellsOf v)) (zo3 k v q.2.1 q.2.2 r).1 (zo3 k v q.2.1 q.2.2 r).2)]
 | _ => .fail
def zdr (P : Program) (t : TypeId) (x k v : D) : M Ups := do
 let kt ← M.lift (kOf P t)
 let q ← M.lift (zel kt)
 let ke ← M.lift (kOf P q.1)
 M.guard (zeI k ke)
 zfh k v x
def zfL (P : Program) (t : TypeId) (x k v : D) : M Ups := do
 let q ← zcf 8 v
 let fz ← zb6 q.2
 let us ← zdr P t x k q.1
 pure (fz ++ us)
def zoy (es : List Ent) : Option (Nat × D) → List Ent
 | some p => es.eraseIdx p.1
 | none => es
def zpF (k : D) : D → M Ups
 | .map b g => do
   let q ← zd8 b g
   let r ← M.lift (zfJ k q.2.1 0)
   pure [(b, .map g q.1 (zoy q.2.1 r) q.2.2)]
 | _ => .fail
def zvI (P : Program) (x k : D) : List TypeId → M Ups
 | t :: _ => do
   let kt ← M.lift (kOf P t)
   let q ← M.lift (zel kt)
   let ke ← M.lift (kOf P q.1)
   M.guard (zeI k ke)
   zpF k x
 | [] => .fail
def zjw (T : Nat) : D → TK → M (D × Ups)
 | .str s, .str => zoj (.loc T 0) (fun g => .siter g s 0) (fun g => .iter (.loc T 0) g)
 | .nilm, .map _ _ => zoj (.loc T 0) (fun g => .miter g none 0 [] 0) (fun g => .iter (.loc T 0) g)
 | .map b g, .map _ _ => do
   let q ← zd8 b g
   zoj (.loc T 0) (fun g' => .miter g' (some (b, g)) q.2.2 [] q.2.2) (fun g => .iter (.loc T 0) g)
 | _, _ => .fail
def zpz (P : Program) (T : Nat) (t : TypeId) (x : D) : M (D × Ups) := do
 let k ← M.lift (kOf P t)
 zjw T x k
def ztc : D := .tup [.bool false]
def zqu (b : Nm) (g : Nat) : Option Blk → Bool → M (List (D × Ups))
 | some (.siter g' s pos), true => do
   M.guard (decide (g' = g))
   if pos < s.length then
    pure [(.tup [.bool true, .int .i64 pos, .int .i32 (Utf8.decode ⟨s.toArray⟩ pos).1], [(b, .siter g s (pos + (Utf8.decode ⟨s.toArray⟩ pos).2))])]
   else pure [(ztc, [])]
 | some (.miter g' none _ _ _), false => do
   M.guard (decide (g' = g))
   pure [(ztc, [])]
 | some (.miter g' (some m) since seen last), false => do
   M.guard (decide (g' = g))
   let q ← zd8 m.1 m.2
   M.guard (!(!seen.isEmpty && !q.2.1.isEmpty && q.2.1.all fun e => decide (e.born ≥ last)))
   let left := q.2.1.filter fun e => !seen.contains e.born
   let old := left.filter fun e => decide (e.born < since)
   let new := left.filter fun e => decide (e.born ≥ since)
   pure ((if old.isEmpty then [(ztc, [])] else []) ++
    (old ++ new).map fun e => (.tup [.bool true, e.key, e.val], [(b, .miter g (some m) since (seen ++ [e.born]) q.2.2)]))
 | _, _ => .fail
def zuh (isString : Bool) : D → M (List (D × Ups))
 | .iter b g => do
   let o ← M.peek b
   zqu b g o isString
 | _ => .fail
def zst (g : Nat) : Option Blk → M D
 | some (.miter g' (some m) _ seen stepped) => do
   M.guard (decide (g' = g))
   let q ← zd8 m.1 m.2
   let stamp ← M.lift seen.getLast?
   M.guard (decide (q.2.2 = stepped))
   let e ← M.lift (q.2.1.find? fun e => e.born == stamp)
   pure (.tup [e.key, e.val])
 | _ => .fail
def zpE : D → M D
 | .iter b g => do
   let o ← M.peek b
   zst g o
 | _ => .fail
def idx (b : Nm) : List Nm → Option Nat
 | [] => none
 | c :: l => if b = c then some 0 else bnd (idx b l) fun i => some (i + 1)
def zvx : Option Blk → M (List Nm)
 | some k => pure k.ids
 | none => .fail
def zli : Nat → List Nm → List Nm → M (List Nm)
 | _, [], acc => pure acc
 | 0, _ :: _, _ => .fail
 | n + 1, b :: todo, acc =>
   if acc.contains b then zli n todo acc
   else do
    let o ← M.peek b
    let l ← zvx o
    zli n (l ++ todo) (acc ++ [b])
def rin (L : List Nm) (b : Nm) : Option (Nm × Nat) := bnd (idx b L) fun i => some (.arg i, 0)
def zrb (L : List Nm) (T : Nat) (sh : List Nat) : Nm → Option (Nm × Nat)
 | .arg i => bnd L[i]? fun b => some (b, 0)
 | .loc 0 j => bnd sh[j]? fun s => some (.loc T j, s)
 | .loc (_ + 1) _ => none
def zmG : List Nm → M (List Blk)
 | [] => pure []
 | b :: l => do
   let o ← M.peek b
   let k ← M.lift o
   let ks ← zmG l
   pure (k :: ks)
def zff (rids : List Nm) (b : Nm) : Blk → Blk
 | .rows g fz cl sz rs => .rows g (fz || rids.contains b) cl sz rs
 | .map g cl es c => .map g cl es c
 | .siter g s p => .siter g s p
 | .miter g m i l h => .miter g m i l h
def zhm (rids : List Nm) : List Nm → List Blk → List Blk
 | b :: l, k :: ks => zff rids b k :: zhm rids l ks
 | [], _ => []
 | _ :: _, [] => []
def ze9 (ρ : Nm → Option (Nm × Nat)) : List Blk → Option (List Blk)
 | [] => some []
 | k :: l => bnd (zb4 ρ 0 k) fun k' => bnd (ze9 ρ l) fun l' => some (k' :: l')
def zi8 (T : Nat) : Nat → List Blk → M (List Nat)
 | _, [] => pure []
 | j, _ :: l => do
   let o ← M.peek (.loc T j)
   let r ← zi8 T (j + 1) l
   pure (zaQ o :: r)
def zej (ρ : Nm → Option (Nm × Nat)) (T : Nat) : Nat → List Nat → List Blk → Option Ups
 | j, s :: sh, k :: l => bnd (zb4 ρ s k) fun k' => bnd (zej ρ T (j + 1) sh l) fun l' => some ((.loc T j, k') :: l')
 | _, [], _ => some []
 | _, _ :: _, [] => some []
def zdI : List Nm → List Blk → Ups
 | b :: l, k :: ks => (b, k) :: zdI l ks
 | [], _ => []
 | _ :: _, [] => []
def zls (T n : Nat) : Nm → Bool
 | .loc t j => !(t == T && Nat.blt j n)
 | .arg _ => true
def zt5 (T n : Nat) : List Nm → Bool
 | [] => true
 | b :: l => zls T n b && zt5 T n l
def zhd (byRef : Bool) (args : List D) : M (List D × List Nm) := if byRef then pure (args, []) else zbg (zcf 8) args
def zpH (call : List D → List Blk → Option Res) (T : Nat) (as : List D) (rids : List Nm) : M (D × Ups) := do
 let L ← zli 64 (zey as) []
 let fz ← zb6 rids
 let ks ← zmG L
 let as' ← M.lift (zei (rin L) as)
 let sub ← M.lift (ze9 (rin L) (zhm rids L ks))
 let r ← M.lift (call as' sub)
 M.guard (decide (r.args.length = L.length))
 M.guard (zt5 T r.esc.length L)
 let sh ← zi8 T 0 r.esc
 let v ← M.lift (ren (zrb L T sh) r.val)
 let back ← M.lift (ze9 (zrb L T sh) r.args)
 let esc ← M.lift (zej (zrb L T sh) T 0 sh r.esc)
 pure (v, (if L.isEmpty && (zip r.val && r.esc.isEmpty) then [] else fz) ++ (zdI L back ++ esc))
def zpG (call : List D → List Blk → Option Res) (T : Nat) (q : List D × List Nm) : Option (List D → Option D) → M (D × Ups)
 | some p => do
   let _ ← zb6 q.2
   let v ← M.lift (p q.1)
   pure (v, [])
 | none => zpH call T q.1 q.2
def zuj (C : Cfg) (call : FuncId → List D → List Blk → Option Res) (T : Nat) (f : FuncId) (args : List D) : M (D × Ups) := do
 let q ← zhd (C.byRef f) args
 zpG (call f) T q (C.prim f)
def one (x : M (D × Ups)) : M (List (D × Ups)) := do
 let r ← x
 pure [r]
def val (x : M D) : M (List (D × Ups)) := do
 let v ← x
 pure [(v, [])]
def zeE : D := .tup []
def eff (x : M Ups) : M (List (D × Ups)) := do
 let us ← x
 pure [(zeE, us)]
def zep (P : Program) (T : Nat) (ts : List TypeId) : Builtin → List D → M (List (D × Ups))
 | .len, [x] => val (zx5 P x ts)
 | .append, [s, x] => one (zlR P T s x ts)
 | .min, x :: r => val (M.lift (zou zx3 x r))
 | .max, x :: r => val (M.lift (zou zx4 x r))
 | .cap, [x] => val (zyS P x ts)
 | _, _ => .fail
def zcC : Operand → Bool
 | .const _ => true
 | _ => false
def zug (a b : D) : D → Option D
 | .bool t => some (if t then a else b)
 | _ => none
def zwh : D → Option D
 | .ptr b g r o => some (.ptr b g r o)
 | .eptr r o => some (.eptr r o)
 | .fn (.func f) a b => some (.fn (.func f) a b)
 | _ => none
def zcL : TK → Bool
 | .iface => true
 | _ => false
def ziV (i : Nat) : D → Option D
 | .tup ds => ds[i]?
 | _ => none
def zsE (C : Cfg) (call : FuncId → List D → List Blk → Option Res) (T : Nat) (args : List D) : D → M (List (D × Ups))
 | .fn (.func g) a b => one (zuj C call T g (a ++ (args ++ b)))
 | _ => .fail
def zez (C : Cfg) (call : FuncId → List D → List Blk → Option Res) (T : Nat) (ρ : Operand → D) (ts : List TypeId) (args : List D) : Callee → M (List (D × Ups))
 | .builtin b => zep C.P T ts b args
 | .value f => zsE C call T args (ρ f)
 | .invoke _ _ => .fail
def T0 : Option Nat → Nat
 | some t => t
 | none => 99999
def dop (C : Cfg) (call : FuncId → List D → List Blk → Option Res) (ρ : Operand → D) (dst : Option Nat) : Op → M (List (D × Ups))
 | .move x => pure [(ρ x, [])]
 | .assign x => pure [(ρ x, [])]
 | .pick c a b => val (M.lift (zug (ρ a) (ρ b) (ρ c)))
 | .alloc t => one (zpK C.P (T0 dst) t)
 | .box t x => one (zx9 C.P (T0 dst) t (ρ x))
 | .build t ps => val (M.lift (zpI C.P t (ps.toList.map fun p => (p.1, ρ p.2))))
 | .buildSlice t len ps => one (zfj C.P (T0 dst) t len (ps.toList.map fun p => (p.1, ρ p.2)))
 | .load t a => val (zsz C.P t (ρ a))
 | .store t a x => eff (zpx C.P t (ρ a) (ρ x))
 | .nilCheck x => val (M.lift (zwh (ρ x)))
 | .binOp op t x y _ => val (M.lift (zpJ C.P op t (zcC x || zcC y) (ρ x) (ρ y)))
 | .unOp op _ x => val (M.lift (dun op (ρ x)))
 | .convert s d x => one (ziW C.P (T0 dst) s d (ρ x))
 | .makeInterface t x => do
   let k ← M.lift (kOf C.P t)
   M.guard (!(zcL k))
   pure [(.iface t (ρ x), [])]
 | .makeFunc f a b => pure [(.fn f (a.toList.map ρ) (b.toList.map ρ), [])]
 | .makeMap t r => one (ziU C.P (T0 dst) t (r.map ρ))
 | .makeSlice t l c => one (zgd C.P (T0 dst) t (ρ l) (ρ c))
 | .slice t x l h m => val (zpy C.P t (ρ x) (l.map ρ) (h.map ρ) (m.map ρ))
 | .fieldAddr t x f => val (M.lift (zgf C.P t (ρ x) f))
 | .field t x f => val (M.lift (zpC C.P t (ρ x) f))
 | .indexAddr t x i => val (zge C.P t (ρ x) (ρ i))
 | .index t x i => val (M.lift (zpB C.P t (ρ x) (ρ i)))
 | .lookup t x i ok => val (zlH C.P t (ρ x) (ρ i) ok)
 | .mapUpdate t m k x => eff (zfL C.P t (ρ m) (ρ k) (ρ x))
 | .insert t m k x => eff (zfL C.P t (ρ m) (ρ k) (ρ x))
 | .range t x => one (zpz C.P (T0 dst) t (ρ x))
 | .next it s => zuh s (ρ it)
 | .entry it => val (zpE (ρ it))
 | .extract t i => val (M.lift (ziV i (ρ t)))
 | .call c => zez C call (T0 dst) ρ c.argTypes.toList (c.args.toList.map ρ) c.callee
 | _ => .fail
def Env.put (e : Env) (v : D) : Option Nat → Env
 | some t => e.upd t v
 | none => e
def St.put (s : St) (dst : Option Nat) (r : D × Ups) : St := ⟨s.env.put r.1 dst, s.mem.upds r.2⟩
def zeW : Bool → D → Option Bool
 | true, .bool b => some b
 | false, .bool b => some !b
 | true, .tup [] => some false
 | false, .tup [] => some false
 | _, _ => none
def sel {α : Type} (a b : Option α) : Bool → Option α
 | true => a
 | false => b
def zdq (ops : Array Oper) (e : Env) : Option (Nat × Bool) → Option Bool
 | none => some true
 | some g => bnd (bnd ops[g.1]? Oper.dst) fun t => zeW g.2 (e t)
def zrE : Option Res → Option Res → Bool
 | some a, some b => zhb a.val b.val && zjd a.args b.args && zjd a.esc b.esc
 | _, _ => false
def znm : List (Option Res) → Option Res
 | [] => none
 | [r] => r
 | r :: q :: l => if zrE r (znm (q :: l)) then r else none
def ways (k : D × Ups → Option Res) : List (D × Ups) → Option Res
 | [] => none
 | [r] => k r
 | r :: q :: l => znm ((r :: q :: l).map k)
def ztg (C : Cfg) (call : FuncId → List D → List Blk → Option Res) (ops : Array Oper) (k : St → Option Res) : List Oper → St → Option Res
 | [], s => k s
 | o :: rest, s =>
   bnd (zdq ops s.env o.guard) fun b =>
    sel (bnd ((dop C call (opd s.env) o.dst o.op).run s.mem []) fun p => ways (fun r => ztg C call ops k rest (s.put o.dst r)) p.1)
     (ztg C call ops k rest (s.put o.dst (zeE, []))) b
structure Trc where
 st : St
 rd : List Nm
 wr : List Nm
def zmK (s : St) (dst : Option Nat) : List (D × Ups) × List Nm → Option Trc
 | ([r], l) => some ⟨s.put dst r, l, r.2.map (·.1)⟩
 | _ => none
def zhp (C : Cfg) (call : FuncId → List D → List Blk → Option Res) (ops : Array Oper) (o : Oper) (s : St) : Option Trc :=
 bnd (zdq ops s.env o.guard) fun b =>
  sel (bnd ((dop C call (opd s.env) o.dst o.op).run s.mem []) (zmK s o.dst)) (some ⟨s.put o.dst (zeE, []), [], []⟩) b
abbrev zml := Nat × List Nm × List Nm
def zuf (C : Cfg) (call : FuncId → List D → List Blk → Option Res) (ops : Array Oper) : Nat → List Oper → St → Option (St × List zml)
 | _, [], s => some (s, [])
 | i, o :: rest, s => bnd (zhp C call ops o s) fun t => bnd (zuf C call ops (i + 1) rest t.st) fun q => some (q.1, (i, t.rd, t.wr) :: q.2)
def orl (a : Bool) (b : Unit → Bool) : Bool := a || b ()
def zjv (ops : Array Oper) (j : Nat) : List Edge :=
 match ops[j]? with
 | some o => o.after.toList
 | none => []
def zfO : Ground → Bool
 | .textOnly _ => false
 | .gcOnly _ => false
 | .data => true
 | .chain => true
 | .guard => true
 | .phase => true
def zgT (f : Nat → Bool) (j : Nat) : List Edge → Bool
 | [] => false
 | e :: l => orl (zfO e.ground && decide (e.on < j) && f e.on) fun _ => zgT f j l
def zdE (ops : Array Oper) (i : Nat) : Nat → Nat → Bool
 | 0, _ => false
 | n + 1, j => orl (zgT (fun x => x == i) j (zjv ops j)) fun _ => zgT (fun x => zdE ops i n x) j (zjv ops j)
def zwj : List Nm → List Nm → Bool
 | [], _ => true
 | x :: l, b => !(b.contains x) && zwj l b
def zkW (x y : zml) : Bool := zwj x.2.2 y.2.1 && (zwj x.2.2 y.2.2 && zwj y.2.2 x.2.1)
def zjI (ops : Array Oper) (x : zml) : List zml → Bool
 | [] => true
 | y :: l => orl (zkW x y) (fun _ => zdE ops x.1 64 y.1) && zjI ops x l
def zut (ops : Array Oper) : List zml → Bool
 | [] => true
 | x :: l => zjI ops x l && zut ops l
def zci (body : (Ex → St → Option Res) → St → Option Res) (k : Ex → St → Option Res) : Nat → St → Option Res
 | 0, _ => none
 | n + 1, s => body (fun ex s' => match ex with
   | .normal => zci body k n s'
   | e => k e s') s
def onB {α : Type} (a b : Option α) : D → Option α
 | .bool t => sel a b t
 | _ => none
def zbu (C : Cfg) (call : FuncId → List D → List Blk → Option Res) (n : Nat) : Code → (Ex → St → Option Res) → St → Option Res
 | .skip, k, s => k .normal s
 | .label _, k, s => k .normal s
 | .region _ ops draw, k, s =>
   sel (bnd (zuf C call ops 0 ops.toList s) fun q => bnd (ok (zut ops q.2)) fun _ => k .normal q.1) (ztg C call ops (k .normal) ops.toList s) draw
 | .seq a b, k, s => zbu C call n a (fun ex s' => match ex with
   | .normal => zbu C call n b k s'
   | e => k e s') s
 | .cond c a b, k, s => onB (zbu C call n a k s) (zbu C call n b k s) (opd s.env c)
 | .block id c, k, s => zbu C call n c (fun ex s' => match ex with
   | .exit i => if i = id then k .normal s' else k (.exit i) s'
   | e => k e s') s
 | .loop c, k, s => zci (zbu C call n c) k n s
 | .exit id, k, s => k (.exit id) s
 | .ret, k, s => k .ret s
 | _, _, _ => none
def zvX (args : List D) (t : Nat) : D := args.getD t zeE
def zgB (mem : List Blk) : Mem
 | .arg i => mem[i]?
 | .loc _ _ => none
def zkC (P : Program) (e : Env) : ResultVar → M D
 | .tmp t => pure (e t)
 | .cell a t => zsz P t (e a)
def zgN (P : Program) (e : Env) : List ResultVar → M (List D)
 | [] => pure []
 | r :: l => do
   let d ← zkC P e r
   let ds ← zgN P e l
   pure (d :: ds)
def zp8 : List D → D
 | [d] => d
 | [] => .tup []
 | a :: b :: l => .tup (a :: b :: l)
def znB (na : Nat) (esc : List Nm) : Nm → Option (Nm × Nat)
 | .arg i => if i < na then some (.arg i, 0) else none
 | .loc t j => bnd (idx (.loc t j) esc) fun i => some (.loc 0 i, 0)
def zjo : Nm → Bool
 | .loc _ _ => true
 | .arg _ => false
def zfm (n : Nat) : List Nm := (List.range n).map .arg
def zoR : List Blk → List Nm
 | [] => []
 | k :: l => k.ids ++ zoR l
def zlg (byRef : Bool) (d : D) : M (D × List Nm) := if byRef then pure (d, []) else zcf 9 d
def zkO (C : Cfg) (f : FuncId) (rs : List ResultVar) (na : Nat) (e : Env) : M Res := do
 let ds ← zgN C.P e rs
 let q ← zlg (C.byRef f) (zp8 ds)
 let _ ← zb6 q.2
 let ks ← zmG (zfm na)
 let L ← zli 64 (ids q.1 ++ zoR ks) []
 let es ← zmG (L.filter zjo)
 let v' ← M.lift (ren (znB na (L.filter zjo)) q.1)
 let ks' ← M.lift (ze9 (znB na (L.filter zjo)) (zhm q.2 (zfm na) ks))
 let es' ← M.lift (ze9 (znB na (L.filter zjo)) (zhm q.2 (L.filter zjo) es))
 pure ⟨v', ks', es'⟩
def zwk (C : Cfg) (f : FuncId) (rs : List ResultVar) (na : Nat) : Ex → St → Option Res
 | .exit _, _ => none
 | .normal, s => bnd ((zkO C f rs na s.env).run s.mem []) fun p => some p.1
 | .ret, s => bnd ((zkO C f rs na s.env).run s.mem []) fun p => some p.1
def dfn (C : Cfg) : Nat → FuncId → List D → List Blk → Option Res
 | 0, _, _, _ => none
 | n + 1, f, args, mem => bnd C.P.funcs[f]? fun fn => bnd fn.body fun c => bnd (ok (C.fine f)) fun _ =>
     zbu C (dfn C n) n c (zwk C f fn.results.toList mem.length) ⟨zvX args, zgB mem⟩
end Go.Ev
namespace Go.Ev
@[go_sem] theorem Env.upd_at (e : Env) (t : Nat) (v : D) (x : Nat) : (e.upd t v) x = if x = t then v else e x := rfl
@[go_sem] theorem Mem.upd_at (m : Mem) (b c : Nm) (k : Blk) : (m.upd b k) c = if c = b then some k else m c := rfl
attribute [go_sem] Mem.upds St.put Env.put.eq_1 Env.put.eq_2 Blk.gen.eq_1 Blk.gen.eq_2 Blk.gen.eq_3 Blk.gen.eq_4 zaQ.eq_1 zaQ.eq_2 zvs.eq_1 zvs.eq_2 opd.eq_1 opd.eq_2 opd.eq_3 opd.eq_4 cellsOf.eq_1 cellsOf.eq_2 cellsOf.eq_3 cellsOf.eq_4 cellsOf.eq_5 cellsOf.eq_6 cellsOf.eq_7 cellsOf.eq_8 cellsOf.eq_9 cellsOf.eq_10 cellsOf.eq_11 cellsOf.eq_12 cellsOf.eq_13 cellsOf.eq_14 cellsOf.eq_15 cellsOf.eq_16 cellsOf.eq_17 cellsOf.eq_18 zqv zaG cell.eq_1 cell.eq_2 cell.eq_3 cell.eq_4 cell.eq_5 cell.eq_6 cell.eq_7 cell.eq_8 cell.eq_9 cell.eq_10 cell.eq_11 cell.eq_12 cell.eq_13 cell.eq_14 cell.eq_15 cell.eq_16 cell.eq_17 cell.eq_18 zau still.eq_1 still.eq_2 still.eq_3 still.eq_4 still.eq_5 still.eq_6 still.eq_7 still.eq_8 still.eq_9 still.eq_10 still.eq_11 still.eq_12 still.eq_13 still.eq_14 still.eq_15 still.eq_16 still.eq_17 still.eq_18 zbM zip zke part
attribute [go_sem] ids zey zyK zyL Blk.ids ren zei zv4 zv7 zb4 ze9 zej
attribute [go_sem] ofV.eq_1 ofV.eq_2 ofV.eq_3 ofV.eq_4 ofV.eq_5 ofV.eq_6 ofV.eq_7 ofV.eq_8 ofV.eq_9 zfH.eq_1 zfH.eq_2 zfH.eq_3 zfH.eq_4 zfH.eq_5 zfH.eq_6 zfH.eq_7 zfH.eq_8 zfc only.eq_1
attribute [go_sem] zkP.eq_1 zkP.eq_2 zkP.eq_3 zb2.eq_1 zb2.eq_2 zx7.eq_1 zjB.eq_1 zjB.eq_2 zjB.eq_3 zjB.eq_4 zjB.eq_5 zjB.eq_6 zjB.eq_7 zjB.eq_8 zjB.eq_9 zjB.eq_10 zjB.eq_11 zlJ ztf.eq_1 ztf.eq_2 ztf.eq_3 ztf.eq_4 ztf.eq_5 ztf.eq_6 ztf.eq_7 zpD.eq_1 zpD.eq_2 dun.eq_1 dun.eq_2 dun.eq_3 zlM.eq_1 zpC zjA.eq_1 zjA.eq_2 zpB.eq_1 bound.eq_1 bound.eq_2 zc8 zdp zlO.eq_1 zlO.eq_2 zpI zpY.eq_1 zdH zx3.eq_1 zx4.eq_1 zou
attribute [go_sem] znj.eq_1 zc7 zd7 zbg zcf zkM.eq_1 zb6 zpK zx9 zpA.eq_1 zpA.eq_2 zsz zox.eq_1 zpx zkX.eq_1 zkX.eq_2 zfi.eq_1 zgf zeM.eq_1 zeM.eq_2 zeb.eq_1 zeb.eq_2 zge.eq_1
attribute [go_sem] zeK.eq_1 zeK.eq_2 zeK.eq_3 zeK.eq_4 zlE.eq_3 zpy ze1.eq_1 ze1.eq_2 ze1.eq_3 zdu.eq_1 zfE.eq_1 zfE.eq_2 zhq.eq_1 zhq.eq_2 zlR.eq_1 zdG.eq_1 zsy.eq_1 zgd zgb zn5 zfj zkq.eq_1 zd8 zlI.eq_1 zlI.eq_2 zlI.eq_3 zlI.eq_4 zlI.eq_5 zx5.eq_1 zuO.eq_1 zgR.eq_1 zgR.eq_2 zcF.eq_1 zcF.eq_2 zcF.eq_3 ziW
attribute [go_sem] zdl.eq_1 zdl.eq_2 zdl.eq_3 zfJ zeI.eq_1 zeI.eq_2 zeI.eq_3 zel.eq_1 zmL.eq_1 zmL.eq_2 zmL.eq_3 zoj ziU zmS.eq_1 zmS.eq_2 zpk.eq_1 zpk.eq_2 zlH zo3.eq_1 zo3.eq_2 zfh.eq_1 zdr zfL zoy.eq_1 zoy.eq_2 zpF.eq_1 zvI zjw.eq_1 zjw.eq_2 zjw.eq_3 zpz ztc zqu.eq_1 zqu.eq_2 zqu.eq_3 zuh.eq_1 zst.eq_1 zpE.eq_1
attribute [go_sem] idx zvx.eq_1 zvx.eq_2 zli rin zrb.eq_1 zrb.eq_2 zrb.eq_3 zmG zff.eq_1 zff.eq_2 zff.eq_3 zff.eq_4 zhm zi8 zls.eq_1 zls.eq_2 zt5 zdI zhd zpH zpG.eq_1 zpG.eq_2 zuj one val zeE eff zep.eq_1 zep.eq_2 zep.eq_3 zep.eq_4 zep.eq_5 zcC.eq_1 zug.eq_1 zwh.eq_1 zwh.eq_2 zwh.eq_3 zcL.eq_1 ziV.eq_1 zsE.eq_1 zez.eq_1 zez.eq_2 zez.eq_3 T0.eq_1 T0.eq_2 dop.eq_1 dop.eq_2 dop.eq_3 dop.eq_4 dop.eq_5 dop.eq_6 dop.eq_7 dop.eq_8 dop.eq_9 dop.eq_10 dop.eq_11 dop.eq_12 dop.eq_13 dop.eq_14 dop.eq_15 dop.eq_16 dop.eq_17 dop.eq_18 dop.eq_19 dop.eq_20 dop.eq_21 dop.eq_22 dop.eq_23 dop.eq_24 dop.eq_25 dop.eq_26 dop.eq_27 dop.eq_28 dop.eq_29 dop.eq_30
attribute [go_sem] zeW.eq_1 zeW.eq_2 zeW.eq_3 zeW.eq_4 zdq.eq_1 zdq.eq_2 zmK.eq_1 zwj zkW zjI zut zjv zfO.eq_1 zfO.eq_2 zfO.eq_3 zfO.eq_4 zfO.eq_5 zfO.eq_6 zgT zdE  zvX zgB.eq_1 zgB.eq_2 zkC.eq_1 zkC.eq_2 zgN zp8.eq_1 zp8.eq_2 zp8.eq_3 znB.eq_1 znB.eq_2 zjo.eq_1 zjo.eq_2 zfm zoR zlg zkO zwk.eq_1 zwk.eq_2 zwk.eq_3 dfn zkB
@[go_sem] theorem zBr (k : IntKind) : TK.agg (.int k) = false := rfl
@[go_sem] theorem zBq  : TK.agg (.bool) = false := rfl
@[go_sem] theorem zBp  : TK.agg (.str) = false := rfl
@[go_sem] theorem zBo  : TK.agg (.ptr) = false := rfl
@[go_sem] theorem zBn (e : TypeId) : TK.agg (.slice e) = false := rfl
@[go_sem] theorem zBm (k e : TypeId) : TK.agg (.map k e) = false := rfl
@[go_sem] theorem zBl  : TK.agg (.func) = false := rfl
@[go_sem] theorem zBk  : TK.agg (.iface) = false := rfl
@[go_sem] theorem zBj  : TK.agg (.tuple) = false := rfl
@[go_sem] theorem zBi  : TK.agg (.other) = false := rfl
@[go_sem] theorem zyJ  : zdG (.bool) = false := rfl
@[go_sem] theorem zyI  : zdG (.str) = false := rfl
@[go_sem] theorem zyH  : zdG (.ptr) = false := rfl
@[go_sem] theorem zyG (e : TypeId) : zdG (.slice e) = false := rfl
@[go_sem] theorem zyF (k e : TypeId) : zdG (.map k e) = false := rfl
@[go_sem] theorem zyE  : zdG (.func) = false := rfl
@[go_sem] theorem zyD  : zdG (.iface) = false := rfl
@[go_sem] theorem zyC  : zdG (.tuple) = false := rfl
@[go_sem] theorem zyB  : zdG (.other) = false := rfl
@[go_sem] theorem zBg (fs : List (TypeId × Nat)) : TK.agg (.struct fs) = true := rfl
@[go_sem] theorem zBh (n : Nat) (e : TypeId) : TK.agg (.array n e) = true := rfl
@[go_sem] theorem zzJ (k : IntKind) : zcL (.int k) = false := rfl
@[go_sem] theorem zzI  : zcL (.bool) = false := rfl
@[go_sem] theorem zzH  : zcL (.str) = false := rfl
@[go_sem] theorem zzG  : zcL (.ptr) = false := rfl
@[go_sem] theorem zzF (e : TypeId) : zcL (.slice e) = false := rfl
@[go_sem] theorem zzE (k e : TypeId) : zcL (.map k e) = false := rfl
@[go_sem] theorem zzD  : zcL (.func) = false := rfl
@[go_sem] theorem zzC  : zcL (.tuple) = false := rfl
@[go_sem] theorem zzB  : zcL (.other) = false := rfl
@[go_sem] theorem zzz (fs : List (TypeId × Nat)) : zcL (.struct fs) = false := rfl
@[go_sem] theorem zzA (n : Nat) (e : TypeId) : zcL (.array n e) = false := rfl
@[go_sem] theorem zA1 (t : Nat) : zcC (.tmp t) = false := rfl
@[go_sem] theorem zA0 (t : Nat) : zcC (.global t) = false := rfl
@[go_sem] theorem zAZ (t : Nat) : zcC (.func t) = false := rfl
@[go_sem] theorem zBe (P : Program) (t : TypeId) (c : Bool) (a b : Bool) : deq P t c (.bool a) (.bool b) = bnd (kOf P t) (zjB c (.bool a) (.bool b)) := rfl
@[go_sem] theorem zzT (P : Program) (op : BinOp) (t : TypeId) (c : Bool) (a b : Bool) : zpJ P op t c (.bool a) (.bool b) = zpD P t c (.bool a) (.bool b) op := rfl
@[go_sem] theorem zBd (P : Program) (t : TypeId) (c : Bool)  : deq P t c (.nilp) (.nilp) = bnd (kOf P t) (zjB c (.nilp) (.nilp)) := rfl
@[go_sem] theorem zzS (P : Program) (op : BinOp) (t : TypeId) (c : Bool)  : zpJ P op t c (.nilp) (.nilp) = zpD P t c (.nilp) (.nilp) op := rfl
@[go_sem] theorem zBc (P : Program) (t : TypeId) (c : Bool) (f f2 : Fl) (r r2 : List Row) : deq P t c (.sl f r) (.sl f2 r2) = bnd (kOf P t) (zjB c (.sl f r) (.sl f2 r2)) := rfl
@[go_sem] theorem zzR (P : Program) (op : BinOp) (t : TypeId) (c : Bool) (f f2 : Fl) (r r2 : List Row) : zpJ P op t c (.sl f r) (.sl f2 r2) = zpD P t c (.sl f r) (.sl f2 r2) op := rfl
@[go_sem] theorem zBb (P : Program) (t : TypeId) (c : Bool) (b : Nm) (g o l : Nat) (f : Fl) (r : List Row) : deq P t c (.own b g o l) (.sl f r) = bnd (kOf P t) (zjB c (.own b g o l) (.sl f r)) := rfl
@[go_sem] theorem zzQ (P : Program) (op : BinOp) (t : TypeId) (c : Bool) (b : Nm) (g o l : Nat) (f : Fl) (r : List Row) : zpJ P op t c (.own b g o l) (.sl f r) = zpD P t c (.own b g o l) (.sl f r) op := rfl
@[go_sem] theorem zBa (P : Program) (t : TypeId) (c : Bool)  : deq P t c (.nili) (.nili) = bnd (kOf P t) (zjB c (.nili) (.nili)) := rfl
@[go_sem] theorem zzP (P : Program) (op : BinOp) (t : TypeId) (c : Bool)  : zpJ P op t c (.nili) (.nili) = zpD P t c (.nili) (.nili) op := rfl
@[go_sem] theorem zA9 (P : Program) (t : TypeId) (c : Bool) (t2 : TypeId) (v : D) : deq P t c (.iface t2 v) (.nili) = bnd (kOf P t) (zjB c (.iface t2 v) (.nili)) := rfl
@[go_sem] theorem zzO (P : Program) (op : BinOp) (t : TypeId) (c : Bool) (t2 : TypeId) (v : D) : zpJ P op t c (.iface t2 v) (.nili) = zpD P t c (.iface t2 v) (.nili) op := rfl
@[go_sem] theorem zA8 (P : Program) (t : TypeId) (c : Bool) (t2 : TypeId) (v : D) : deq P t c (.nili) (.iface t2 v) = bnd (kOf P t) (zjB c (.nili) (.iface t2 v)) := rfl
@[go_sem] theorem zzN (P : Program) (op : BinOp) (t : TypeId) (c : Bool) (t2 : TypeId) (v : D) : zpJ P op t c (.nili) (.iface t2 v) = zpD P t c (.nili) (.iface t2 v) op := rfl
@[go_sem] theorem zA7 (P : Program) (t : TypeId) (c : Bool) (xs ys : List D) : deq P t c (.agg xs) (.agg ys) = bnd (ok (zov P t)) fun _ => bnd (kOf P t) (zx7 P xs ys) := rfl
@[go_sem] theorem zzM (P : Program) (op : BinOp) (t : TypeId) (c : Bool) (xs ys : List D) : zpJ P op t c (.agg xs) (.agg ys) = zpD P t c (.agg xs) (.agg ys) op := rfl
attribute [go_sem] zpJ.eq_1 zpJ.eq_2 zeL.eq_1 zeL.eq_2
@[go_sem] theorem zxd (k k2 : IntKind) (x y : Int) : zeL k k2 x y .add = if k = k2 then zlJ k x y .add else none := rfl
@[go_sem] theorem zw2 (k k2 : IntKind) (x y : Int) : zeL k k2 x y .sub = if k = k2 then zlJ k x y .sub else none := rfl
@[go_sem] theorem zw6 (k k2 : IntKind) (x y : Int) : zeL k k2 x y .mul = if k = k2 then zlJ k x y .mul else none := rfl
@[go_sem] theorem zw4 (k k2 : IntKind) (x y : Int) : zeL k k2 x y .quo = if k = k2 then zlJ k x y .quo else none := rfl
@[go_sem] theorem zw3 (k k2 : IntKind) (x y : Int) : zeL k k2 x y .rem = if k = k2 then zlJ k x y .rem else none := rfl
@[go_sem] theorem zxc (k k2 : IntKind) (x y : Int) : zeL k k2 x y .and = if k = k2 then zlJ k x y .and else none := rfl
@[go_sem] theorem zx6 (k k2 : IntKind) (x y : Int) : zeL k k2 x y .or = if k = k2 then zlJ k x y .or else none := rfl
@[go_sem] theorem zw1 (k k2 : IntKind) (x y : Int) : zeL k k2 x y .xor = if k = k2 then zlJ k x y .xor else none := rfl
@[go_sem] theorem zuV (k k2 : IntKind) (x y : Int) : zeL k k2 x y .andNot = if k = k2 then zlJ k x y .andNot else none := rfl
@[go_sem] theorem zxb (k k2 : IntKind) (x y : Int) : zeL k k2 x y .eql = if k = k2 then zlJ k x y .eql else none := rfl
@[go_sem] theorem zw5 (k k2 : IntKind) (x y : Int) : zeL k k2 x y .neq = if k = k2 then zlJ k x y .neq else none := rfl
@[go_sem] theorem zw7 (k k2 : IntKind) (x y : Int) : zeL k k2 x y .lss = if k = k2 then zlJ k x y .lss else none := rfl
@[go_sem] theorem zw8 (k k2 : IntKind) (x y : Int) : zeL k k2 x y .leq = if k = k2 then zlJ k x y .leq else none := rfl
@[go_sem] theorem zw9 (k k2 : IntKind) (x y : Int) : zeL k k2 x y .gtr = if k = k2 then zlJ k x y .gtr else none := rfl
@[go_sem] theorem zxa (k k2 : IntKind) (x y : Int) : zeL k k2 x y .geq = if k = k2 then zlJ k x y .geq else none := rfl
@[go_sem] theorem zuX (P : Program) (T : Nat) (f : Fl) (r : List Row) (e : TypeId) : zcF P T (.sl f r) (.slice e) .str = (do
  let ke ← M.lift (kOf P e)
  M.guard (zuO ke)
  let rs ← zgR (.sl f r)
  let bs ← M.lift (zdH rs)
  pure (.str bs, [])) := rfl
@[go_sem] theorem zuW (P : Program) (T : Nat) (b : Nm) (g o l : Nat) (e : TypeId) : zcF P T (.own b g o l) (.slice e) .str = (do
  let ke ← M.lift (kOf P e)
  M.guard (zuO ke)
  let rs ← zgR (.own b g o l)
  let bs ← M.lift (zdH rs)
  pure (.str bs, [])) := rfl
attribute [go_sem] List.length_cons List.length_nil List.getElem?_cons_zero List.getElem?_cons_succ List.getElem?_nil List.take_succ_cons List.take_zero List.take_nil List.drop_succ_cons List.drop_zero List.drop_nil List.nil_append List.cons_append List.append_nil List.map_cons List.map_nil List.isEmpty_cons List.isEmpty_nil List.set_cons_zero List.set_cons_succ List.range_succ List.range_zero List.getD_cons_zero List.getD_cons_succ List.filter_cons List.filter_nil List.all_cons List.all_nil List.contains_cons List.contains_nil List.replicate List.getLast?_singleton
attribute [go_sem] ge_iff_le gt_iff_lt decide_true decide_false Bool.not_true Bool.not_false Bool.true_and Bool.and_true Bool.false_and Bool.and_false Bool.true_or Bool.or_true Bool.false_or Bool.or_false Bool.not_not Option.map_some Option.map_none Option.bind_some Option.bind_none Option.isSome_some Option.isSome_none Option.isNone_some Option.isNone_none
attribute [go_sem] M.run_pure M.run_ret M.run_fail M.run_peek M.run_lift M.run_guard M.run_ite zr8 zt4
@[go_sem] theorem zwi (body : (Ex → St → Option Res) → St → Option Res) (k : Ex → St → Option Res) (s : St) : zci body k 0 s = none := rfl
structure Tok {α : Type} (a : α) : Type where
def zzp {α β : Type} (x : Option α) (f : α → Option β) (_ : Tok f) : Option β := bnd x f
@[go_sem ↓] theorem zBf {α β : Type} (x : Option α) (f : α → Option β) : bnd x f = zzp x f ⟨⟩ := rfl
@[go_sem] theorem zxM {α β : Type} (a : α) (f : α → Option β) (t : Tok f) : zzp (some a) f t = f a := rfl
@[go_sem] theorem zxN {α β : Type} (f : α → Option β) (t : Tok f) : zzp none f t = none := rfl
def zxW {α : Type} (a b : Option α) (_ : Tok (a, b)) (d : Bool) : Option α := sel a b d
@[go_sem ↓] theorem zAx {α : Type} (a b : Option α) (d : Bool) : sel a b d = zxW a b ⟨⟩ d := rfl
@[go_sem] theorem zwD {α : Type} (a b : Option α) (t : Tok (a, b)) : zxW a b t true = a := rfl
@[go_sem] theorem zv3 {α : Type} (a b : Option α) (t : Tok (a, b)) : zxW a b t false = b := rfl
def zzx {α : Type} (a b : Option α) (_ : Tok (a, b)) (d : D) : Option α := onB a b d
@[go_sem ↓] theorem zAz {α : Type} (a b : Option α) (d : D) : onB a b d = zzx a b ⟨⟩ d := rfl
@[go_sem] theorem zwK {α : Type} (a b : Option α) (t : Tok (a, b)) (d : Bool) : zzx a b t (.bool d) = zxW a b ⟨⟩ d := rfl
def zwy (k : D × Ups → Option Res) (_ : Tok k) (l : List (D × Ups)) : Option Res := ways k l
@[go_sem ↓] theorem zzw (k : D × Ups → Option Res) (l : List (D × Ups)) : ways k l = zwy k ⟨⟩ l := rfl
@[go_sem] theorem zwx (k : D × Ups → Option Res) (t : Tok k) (r : D × Ups) : zwy k t [r] = k r := rfl
def zsA (body : (Ex → St → Option Res) → St → Option Res) (k : Ex → St → Option Res) (n : Nat) (_ : Tok (body, k, n)) (s : St) : Option Res := zci body k n s
@[go_sem ↓] theorem zyP (body : (Ex → St → Option Res) → St → Option Res) (k : Ex → St → Option Res) (n : Nat) (s : St) : zci body k n s = zsA body k n ⟨⟩ s := rfl
def zvG (C : Cfg) (call : FuncId → List D → List Blk → Option Res) (ops : Array Oper) (k : St → Option Res) (l : List Oper) (_ : Tok (C, call, ops, k, l)) (s : St) : Option Res := ztg C call ops k l s
@[go_sem ↓] theorem zzL (C : Cfg) (call : FuncId → List D → List Blk → Option Res) (ops : Array Oper) (k : St → Option Res) (l : List Oper) (s : St) : ztg C call ops k l s = zvG C call ops k l ⟨⟩ s := rfl
@[go_sem] theorem zw0 (C : Cfg) (call : FuncId → List D → List Blk → Option Res) (ops : Array Oper) (k : St → Option Res) (t : Tok (C, call, ops, k, [])) (s : St) : zvG C call ops k [] t s = k s := rfl
@[go_sem] theorem zwg (C : Cfg) (call : FuncId → List D → List Blk → Option Res) (ops : Array Oper) (k : St → Option Res) (o : Oper) (l : List Oper) (t : Tok (C, call, ops, k, o :: l)) (s : St) : zvG C call ops k (o :: l) t s =
 bnd (zdq ops s.env o.guard) fun b =>
  sel (bnd ((dop C call (opd s.env) o.dst o.op).run s.mem []) fun p => ways (fun r => ztg C call ops k l (s.put o.dst r)) p.1)
   (ztg C call ops k l (s.put o.dst (zeE, []))) b := rfl
def zvE (C : Cfg) (call : FuncId → List D → List Blk → Option Res) (ops : Array Oper) (i : Nat) (l : List Oper) (_ : Tok (C, call, ops, i, l)) (s : St) : Option (St × List zml) := zuf C call ops i l s
@[go_sem ↓] theorem zzK (C : Cfg) (call : FuncId → List D → List Blk → Option Res) (ops : Array Oper) (i : Nat) (l : List Oper) (s : St) : zuf C call ops i l s = zvE C call ops i l ⟨⟩ s := rfl
@[go_sem] theorem zwZ (C : Cfg) (call : FuncId → List D → List Blk → Option Res) (ops : Array Oper) (i : Nat) (t : Tok (C, call, ops, i, [])) (s : St) : zvE C call ops i [] t s = some (s, []) := rfl
@[go_sem] theorem zwf (C : Cfg) (call : FuncId → List D → List Blk → Option Res) (ops : Array Oper) (i : Nat) (o : Oper) (l : List Oper) (t : Tok (C, call, ops, i, o :: l)) (s : St) : zvE C call ops i (o :: l) t s =
 bnd (bnd (zdq ops s.env o.guard) fun b =>
  sel (bnd ((dop C call (opd s.env) o.dst o.op).run s.mem []) (zmK s o.dst)) (some ⟨s.put o.dst (zeE, []), [], []⟩) b)
  fun t => bnd (zuf C call ops (i + 1) l t.st) fun q => some (q.1, (i, t.rd, t.wr) :: q.2) := rfl
def zfM (C : Cfg) (call : FuncId → List D → List Blk → Option Res) (n : Nat) (c : Code) (k : Ex → St → Option Res) (_ : Tok (C, call, n, c, k)) (s : St) : Option Res := zbu C call n c k s
@[go_sem ↓] theorem zyR (C : Cfg) (call : FuncId → List D → List Blk → Option Res) (n : Nat) (c : Code) (k : Ex → St → Option Res) (s : St) : zbu C call n c k s = zfM C call n c k ⟨⟩ s := rfl
section
variable (C : Cfg) (call : FuncId → List D → List Blk → Option Res) (n : Nat) (k : Ex → St → Option Res) (s : St)
@[go_sem] theorem zvJ (t : Tok (C, call, n, Code.skip, k)) : zfM C call n .skip k t s = k .normal s := rfl
@[go_sem] theorem zuZ (l : Nat) (t : Tok (C, call, n, Code.label l, k)) : zfM C call n (.label l) k t s = k .normal s := rfl
@[go_sem] theorem zuY (i : Nat) (l : List Oper) (t : Tok (C, call, n, Code.region i l.toArray false, k)) : zfM C call n (.region i l.toArray false) k t s = ztg C call l.toArray (k .normal) l s := rfl
@[go_sem] theorem zvM (i : Nat) (l : List Oper) (t : Tok (C, call, n, Code.region i l.toArray true, k)) : zfM C call n (.region i l.toArray true) k t s = bnd (zuf C call l.toArray 0 l s) fun q => bnd (ok (zut l.toArray q.2)) fun _ => k .normal q.1 := rfl
@[go_sem] theorem zwl (a b : Code) (t : Tok (C, call, n, Code.seq a b, k)) : zfM C call n (.seq a b) k t s = zbu C call n a (fun ex s' => match ex with
 | .normal => zbu C call n b k s'
 | e => k e s') s := rfl
@[go_sem] theorem zvN (c : Operand) (a b : Code) (t : Tok (C, call, n, Code.cond c a b, k)) : zfM C call n (.cond c a b) k t s = onB (zbu C call n a k s) (zbu C call n b k s) (opd s.env c) := rfl
@[go_sem] theorem zu0 (i : Nat) (a : Code) (t : Tok (C, call, n, Code.block i a, k)) : zfM C call n (.block i a) k t s = zbu C call n a (fun ex s' => match ex with
 | .exit j => if j = i then k .normal s' else k (.exit j) s'
 | e => k e s') s := rfl
@[go_sem] theorem zvK (a : Code) (t : Tok (C, call, n, Code.loop a, k)) : zfM C call n (.loop a) k t s = zci (zbu C call n a) k n s := rfl
@[go_sem] theorem zvL (i : Nat) (t : Tok (C, call, n, Code.exit i, k)) : zfM C call n (.exit i) k t s = k (.exit i) s := rfl
@[go_sem] theorem zwm (t : Tok (C, call, n, Code.ret, k)) : zfM C call n .ret k t s = k .ret s := rfl
end
def zyz (a : Bool) (b : Unit → Bool) (_ : Tok b) : Bool := orl a b
@[go_sem ↓] theorem zAy (a : Bool) (b : Unit → Bool) : orl a b = zyz a b ⟨⟩ := rfl
@[go_sem] theorem zwI (b : Unit → Bool) (t : Tok b) : zyz true b t = true := rfl
@[go_sem] theorem zv9 (b : Unit → Bool) (t : Tok b) : zyz false b t = b () := rfl
def zxO {α β : Type} (x : M α) (f : α → M β) (_ : Tok f) : M β := x >>= f
@[go_sem ↓] theorem zz2 {α β : Type} (x : M α) (f : α → M β) : (x >>= f) = zxO x f ⟨⟩ := rfl
@[go_sem] theorem zwE {α β : Type} (m : Mem) (l : List Nm) (x : M α) (f : α → M β) (t : Tok f) : (zxO x f t).run m l = bnd (x.run m l) fun p => (f p.1).run m p.2 := M.run_bind m l x f
@[go_sem] theorem zyY {α : Type} (l : List α) : cut l 0 l.length = l := by simp [cut]
@[go_sem] theorem zyX {α : Type} (a b : Nat) : cut ([] : List α) a b = [] := by simp [cut]
@[go_sem] theorem zxk {α : Type} (a : α) (l : List α) (n : Nat) : cut (a :: l) 0 (n + 1) = a :: cut l 0 n := by
  simp only [cut, List.length_cons, List.drop_zero, List.take_succ_cons, true_and]
  by_cases h : n = l.length
  · simp [h]
  · rw [if_neg (by omega), if_neg h]
@[go_sem] theorem zyc {α : Type} (l : List α) (a : Nat) : cut l a 0 = [] := by
  unfold cut; split
  · rename_i h; exact List.eq_nil_of_length_eq_zero h.2.symm
  · simp
@[go_sem] theorem zyd {α : Type} (a : α) (l : List α) (k n : Nat) : cut (a :: l) (k + 1) n = (l.drop k).take n := by simp [cut]
@[go_sem] theorem zxY {α : Type} (a : α) (l new : List α) (k : Nat) : put (a :: l) (k + 1) new = a :: put l k new := by
  simp [put, Nat.add_right_comm]
@[go_sem] theorem zwG {α : Type} (a b : α) (l new : List α) : put (a :: l) 0 (b :: new) = b :: put l 0 new := by simp [put]
@[go_sem] theorem zwF {α : Type} (l : List α) : put l 0 [] = l := by simp [put]
end Go.Ev
namespace Go.Ev
structure Sl (α : Type) where
 fl : Fl
 l : List α
abbrev Str := List UInt8
def Sl.nil {α : Type} : Sl α := ⟨.nil, []⟩
def Sl.of {α : Type} (l : List α) : Sl α := ⟨.any, l⟩
def cI (k : IntKind) (n : Int) : List D := [.int k n]
def cB (b : Bool) : List D := [.bool b]
def ztn (s : Str) : List D := [.str s]
def dSl {α : Type} (c : α → List D) (s : Sl α) : D := .sl s.fl (s.l.map c)
def cSl {α : Type} (c : α → List D) (s : Sl α) : List D := [dSl c s]
theorem zaU (a b : List D) : zaG (a ++ b) = (zaG a && zaG b) := by
 induction a with
 | nil => simp [zaG]
 | cons x a ih => simp [zaG, ih, Bool.and_assoc]
theorem zaO (a b : List D) : zau (a ++ b) = (zau a && zau b) := by
 induction a with
 | nil => simp [zau]
 | cons x a ih => simp [zau, ih, Bool.and_assoc]
theorem zbr (a b : List D) : zey (a ++ b) = zey a ++ zey b := by
 induction a with
 | nil => simp [zey]
 | cons x a ih => simp [zey, ih, List.append_assoc]
theorem zbp (ρ : Nm → Option (Nm × Nat)) (a b : List D) : zei ρ (a ++ b) = (zei ρ a).bind fun x => (zei ρ b).map fun y => x ++ y := by
 induction a with
 | nil => simp [zei]
 | cons x a ih =>
   simp only [List.cons_append, zei, ih]
   cases ren ρ x <;> simp
   cases zei ρ a <;> simp
   cases zei ρ b <;> simp
theorem zil {d : D} (h : still d = true) : ∀ n, zcf n d = pure (d, []) := by
 cases d <;> simp_all [still] <;> intro n <;> cases n <;> rfl
theorem zbq {l : List D} {n : Nat} (h : zau l = true) : zbg (zcf n) l = pure (l, []) := by
 induction l with
 | nil => rfl
 | cons d l ih =>
   simp only [zau, Bool.and_eq_true] at h
   simp only [zbg, zil h.1, ih h.2]
   rfl
theorem zb7 {α : Type} {l : List α} {n : Nat} (h : l.length = n) : cut l 0 n = l := by
 subst h; simp [cut]
@[go_sem] theorem zvO {α : Type} (c : α → List D) (s : Sl α) : cellsOf (dSl c s) = [dSl c s] := rfl
@[go_sem] theorem zyb {α : Type} (c : α → List D) (s : Sl α) : cell (dSl c s) = true := rfl
@[go_sem] theorem zxh {α : Type} (c : α → List D) (s : Sl α) : still (dSl c s) = true := rfl
@[go_sem] theorem zyW {α : Type} (c : α → List D) (s : Sl α) : ids (dSl c s) = [] := rfl
@[go_sem] theorem zyT {α : Type} (ρ : Nm → Option (Nm × Nat)) (c : α → List D) (s : Sl α) : ren ρ (dSl c s) = some (dSl c s) := rfl
@[go_sem] theorem zxi {α : Type} (n : Nat) (c : α → List D) (s : Sl α) : zcf n (dSl c s) = pure (dSl c s, []) := zil rfl n
@[go_sem] theorem zyV {α : Type} (c : α → List D) (s : Sl α) (e : TypeId) : zlI (dSl c s) (.slice e) = pure (.int .i64 s.l.length) := by
  simp [dSl, zlI]
end Go.Ev
namespace Go.Ev
noncomputable def okP (p : Prop) : Option Unit := open Classical in if p then some () else none
theorem zwB {a n : Nat} (h : a + 1 ≤ n) : ∃ m, n = m + 1 := ⟨n - 1, by omega⟩
theorem zay {p : Prop} {u : Unit} (h : okP p = some u) : p := by
 unfold okP at h; split at h
 · assumption
 · cases h
theorem zb5 {p : Prop} (h : p) : okP p = some () := by unfold okP; rw [if_pos h]
def ix {α : Type} (l : List α) (i : Int) : Option α := if 0 ≤ i then l[i.toNat]? else none
theorem za7 {α : Type} {l : List α} {i : Int} {y : α} (h : ix l i = some y) : decide (0 ≤ i) = true ∧ l[i.toNat]? = some y := by
 unfold ix at h; split at h
 · exact ⟨by simpa, h⟩
 · cases h
theorem zbc {α β : Type} {l : List α} {i : Nat} {y : α} (h : l[i]? = some y) (c : α → β) : (l.map c)[i]? = some (c y) := by
 rw [List.getElem?_map, h]; rfl
inductive Out (R S : Type) where
 | ret (r : R)
 | done (s : S)
def ziA {R S β : Type} (o : Option (Out R S)) (f : R → Option β) (g : S → Option β) : Option β :=
 match o with
 | some (.ret r) => f r
 | some (.done s) => g s
 | none => none
theorem zaX {R S β : Type} {o : Option (Out R S)} {f : R → Option β} {g : S → Option β} {b : β} (h : ziA o f g = some b) :
 (∃ r, o = some (.ret r) ∧ f r = some b) ∨ ∃ s, o = some (.done s) ∧ g s = some b := by
 match o, h with
 | some (.ret r), h => exact .inl ⟨r, rfl, h⟩
 | some (.done s), h => exact .inr ⟨s, rfl, h⟩
theorem zag {α : Type} {A B : Option α} {b : Bool} {r : α} (h : sel A B b = some r) : (b = true ∧ A = some r) ∨ (b = false ∧ B = some r) := by
 cases b
 · exact .inr ⟨rfl, h⟩
 · exact .inl ⟨rfl, h⟩
theorem zbX {a b : Bool} (h : (a && b) = true) : a = true ∧ b = true := by simpa using h
theorem zbA {a b : Bool} (h : (a && b) = false) : a = false ∨ (a = true ∧ b = false) := by cases a <;> simp_all
theorem zdb {a b : Bool} (h : (a || b) = true) : a = true ∨ (a = false ∧ b = true) := by cases a <;> simp_all
theorem zbE {a b : Bool} (h : (a || b) = false) : a = false ∧ b = false := by simpa using h
theorem zaY {a : Bool} (h : (!a) = true) : a = false := by simpa using h
theorem zaA {a : Bool} (h : (!a) = false) : a = true := by simpa using h
def Ev (C : Cfg) (f : FuncId) (args : List D) (d : D) : Prop := ∃ N, ∀ n, N ≤ n → dfn C n f args [] = some ⟨d, [], []⟩
def zeQ (d : D) (m : Mem) (T sz : Nat) (cells : List D) : Prop := ∃ g, d = .ptr (.loc T 0) g 0 0 ∧ m (.loc T 0) = some (.rows g false true sz [cells])
def znr (d : D) (m : Mem) (T sz : Nat) (cells : List D) : Prop := ∃ g, d = .ptr (.loc T 0) g 0 0 ∧ m (.loc T 0) = some (.rows g false false sz [cells])
theorem zaP (body : (Ex → St → Option Res) → St → Option Res) (k : Ex → St → Option Res) (n : Nat) (s : St) : zci body k (n + 1) s = body (fun ex s' => match ex with
 | .normal => zci body k n s'
 | e => k e s') s := rfl
theorem zan {body : (Ex → St → Option Res) → St → Option Res} {k : Ex → St → Option Res} {n : Nat} {s : St} {t : Tok (body, k, n)} {R : Option Res} (h : zci body k n s = R) : zsA body k n t s = R := h
def zwO (C : Cfg) (call : FuncId → List D → List Blk → Option Res) (n : Nat) (c : Code) (k : Ex → St → Option Res) (_ : Tok (C, call, n, c, k)) (s : St) : Option Res := zbu C call n c k s
theorem zlu {C : Cfg} {call : FuncId → List D → List Blk → Option Res} {n : Nat} {c : Code} {k : Ex → St → Option Res} {t : Tok (C, call, n, c, k)} {s : St} {R : Option Res} (h : zbu C call n c k s = R) : zwO C call n c k t s = R := h
theorem zqL (C : Cfg) (call : FuncId → List D → List Blk → Option Res) (n : Nat) (c : Code) : ∀ (k : Ex → St → Option Res) (s : St), zbu C call n c k s = zwO C call n c k ⟨⟩ s := fun _ _ => rfl
def znb : Code → List Nat → Code
 | .seq a b, i :: p => znb (if i = 0 then a else b) p
 | .cond _ a b, i :: p => znb (if i = 0 then a else b) p
 | .block _ a, _ :: p => znb a p
 | .loop a, _ :: p => znb a p
 | c, _ => c
def zcB (f : Func) (p : List Nat) : Code := znb (f.body.getD .skip) p
theorem zbW {α : Type} {l new : List α} {n : Nat} (h : l.length = n) (k : new.length = n) : put l 0 new = new := by
 unfold put; simp [h, k]
attribute [go_sem] cI cB ztn cSl List.length_map
attribute [go_sem] List.getElem?_toArray Nm.loc.injEq Nm.arg.injEq false_and and_false true_and and_true and_self List.elem_cons List.elem_nil beq_self_eq_true List.contains_cons Bool.true_beq Bool.false_beq ite_self Bool.false_eq_true
@[go_sem] theorem zzy (x y : Nm) : (x == y) = decide (x = y) := rfl
@[go_sem] theorem zz3 (b : Bool) : (b == true) = b := by cases b <;> rfl
@[go_sem] theorem zz4 (b : Bool) : (b == false) = !b := by cases b <;> rfl
@[go_sem] theorem zwd : (Fl.nil != Fl.any) = true := rfl
@[go_sem] theorem zvC : (Fl.full != Fl.any) = true := rfl
@[go_sem] theorem zwe : (Fl.any != Fl.any) = false := rfl
@[go_sem] theorem zzU {α : Type} (c : α → List D) (f : Fl) (l : List α) : dSl c ⟨f, l⟩ = .sl f (l.map c) := rfl
@[go_sem] theorem zyU {α : Type} (c : α → List D) : dSl c Sl.nil = .sl .nil [] := rfl
@[go_sem] theorem zxj {α : Type} (ti : TI) (n : Int) (c : α → List D) (s : Sl α) : zeM ti n (dSl c s) = (do
 M.guard (decide (0 ≤ n))
 let row ← M.lift (s.l.map c)[n.toNat]?
 M.guard (decide (row.length = ti.size))
 pure (.eptr row 0)) := rfl
def s2b (s : Str) : List Int := s.map fun b => (b.toNat : Int)
def b2s (l : List Int) : Str := l.map fun n => UInt8.ofNat n.toNat
theorem ztD (s : Str) : s.map zcN = (s2b s).map (cI .u8) := by simp [s2b, zcN, cI, Function.comp_def]
theorem zis (l : List Int) : zdH (l.map (cI .u8)) = some (b2s l) := by
 induction l with
 | nil => rfl
 | cons n l ih => simp only [List.map_cons, zdH, ih, b2s]; rfl
@[go_sem] theorem zyv (n : Int) (l : List Int) : b2s (n :: l) = UInt8.ofNat n.toNat :: b2s l := rfl
@[go_sem] theorem zzq : b2s [] = [] := rfl
@[go_sem] theorem zui (P : Program) (T : Nat) (s : Sl Int) (e : TypeId) : zcF P T (dSl (cI .u8) s) (.slice e) .str = (do
  let ke ← M.lift (kOf P e)
  M.guard (zuO ke)
  pure (.str (b2s s.l), [])) := by
  have h : zcF P T (dSl (cI .u8) s) (.slice e) .str = (do
   let ke ← M.lift (kOf P e)
   M.guard (zuO ke)
   let bs ← M.lift (zdH (s.l.map (cI .u8)))
   pure (.str bs, [])) := rfl
  rw [h, zis]; rfl
@[go_sem] theorem zvS {α : Type} {l : List α} {n : Nat} (h : l.length = n) : cut l 0 n = l := by subst h; simp [cut]
def Sl.out {α : Type} : List α → Sl α
 | [] => Sl.nil
 | a :: l => ⟨.any, a :: l⟩
@[go_sem] theorem Sl.out_nil {α : Type} : Sl.out ([] : List α) = Sl.nil := rfl
@[go_sem] theorem Sl.out_ne {α : Type} {l : List α} (h : (l = []) = False) : Sl.out l = ⟨.any, l⟩ := by
  cases l with
  | nil => simp at h
  | cons a l => rfl
@[simp] theorem Sl.out_l {α : Type} (l : List α) : (Sl.out l).l = l := by cases l <;> rfl
@[simp] theorem Sl.of_l {α : Type} (l : List α) : (Sl.of l).l = l := rfl
@[simp] theorem Sl.nil_l {α : Type} : (Sl.nil : Sl α).l = [] := rfl
def zq8 {α : Type} (d : D) (m : Mem) (Ts : List Nat) (sz : Nat) (c : α → List D) (l : List α) : Prop :=
 (d = .sl .nil [] ∧ l = []) ∨ ∃ T, T ∈ Ts ∧ ∃ g, d = .own (.loc T 0) g 0 l.length ∧ m (.loc T 0) = some (.rows g false true sz (l.map c)) ∧ (l = []) = False
def zv0 {α : Type} (d : D) (m : Mem) (T sz : Nat) (c : α → List D) (l : List α) : Prop :=
 ∃ g, d = .own (.loc T 0) g 0 l.length ∧ m (.loc T 0) = some (.rows g false true sz (l.map c))
def zvZ {α : Type} (d : D) (m : Mem) (Ts : List Nat) (sz : Nat) (c : α → List D) (r : Sl α) : Prop :=
 d = dSl c r ∨ ∃ T, T ∈ Ts ∧ ∃ l, r = Sl.of l ∧ ∃ g, d = .own (.loc T 0) g 0 l.length ∧ m (.loc T 0) = some (.rows g false true sz (l.map c))
def zu9 (d : D) (m : Mem) (T : Nat) (s : Str) (pos : Nat) : Prop := ∃ g, d = .iter (.loc T 0) g ∧ m (.loc T 0) = some (.siter g s pos)
@[go_sem] theorem zxX {α : Type} {l new : List α} (h : l.length = new.length) : put l 0 new = new := zbW h rfl
attribute [go_sem] Nat.zero_add Nat.add_zero Nat.le_refl eq_self zhO List.length_append List.append_eq_nil_iff List.map_append Sl.of ztD zis
@[go_sem] theorem zu7 {α : Type} {c : α → List D} (h : ∀ x, zau (c x) = true) (l : List α) : zbM (l.map c) = true := by
  induction l with
  | nil => rfl
  | cons x l ih => simp only [List.map_cons, zbM, h, ih]; rfl
end Go.Ev
set_option linter.unusedSimpArgs false
namespace Go.Ev
structure Val where
 kind : Int
 int : Int
 text : Str
def Val.setKind : Val → Int → Val
 | .mk _ x1 x2, v => .mk v x1 x2
def Val.setInt : Val → Int → Val
 | .mk x0 _ x2, v => .mk x0 v x2
def Val.setText : Val → Str → Val
 | .mk x0 x1 _, v => .mk x0 x1 v
def Val.zero : Val := .mk 0 0 []
def zbv (x : Val) : List D := ([(.int .i64 x.kind)]) ++ ([(.int .i64 x.int)]) ++ ([(.str x.text)])
theorem zak (x : Val) : zbv x = ([(.int .i64 x.kind)]) ++ ([(.int .i64 x.int)]) ++ ([(.str x.text)]) := rfl
@[go_sem] theorem Val.setKind_kind (x : Val) (v : Int) : (x.setKind v).kind = v := by cases x; rfl
@[go_sem] theorem Val.setKind_int (x : Val) (v : Int) : (x.setKind v).int = x.int := by cases x; rfl
@[go_sem] theorem Val.setKind_text (x : Val) (v : Int) : (x.setKind v).text = x.text := by cases x; rfl
@[go_sem] theorem Val.setInt_kind (x : Val) (v : Int) : (x.setInt v).kind = x.kind := by cases x; rfl
@[go_sem] theorem Val.setInt_int (x : Val) (v : Int) : (x.setInt v).int = v := by cases x; rfl
@[go_sem] theorem Val.setInt_text (x : Val) (v : Int) : (x.setInt v).text = x.text := by cases x; rfl
@[go_sem] theorem Val.setText_kind (x : Val) (v : Str) : (x.setText v).kind = x.kind := by cases x; rfl
@[go_sem] theorem Val.setText_int (x : Val) (v : Str) : (x.setText v).int = x.int := by cases x; rfl
@[go_sem] theorem Val.setText_text (x : Val) (v : Str) : (x.setText v).text = v := by cases x; rfl
@[go_sem] theorem zem (x : Val) : (zbv x).length = 3 := by simp [zak]
@[go_sem] theorem zfS (x : Val) : zaG (zbv x) = true := by simp [zak, zaU, zaG, cell, dSl]
@[go_sem] theorem zdT (x : Val) : zau (zbv x) = true := by simp [zak, zaO, zau, still, dSl]
@[go_sem] theorem zjp (x : Val) : zey (zbv x) = [] := by simp [zak, zbr, zey, ids, dSl]
@[go_sem] theorem zjf (ρ : Nm → Option (Nm × Nat)) (x : Val) : zei ρ (zbv x) = some (zbv x) := by simp [zak, zbp, zei, ren, dSl]
@[go_sem] theorem zv8 (n : Nat) (x : Val) : zbg (zcf n) (zbv x) = pure (zbv x, []) := zbq (zdT x)
@[go_sem] theorem Val.zero_kind : Val.zero.kind = 0 := rfl
@[go_sem] theorem Val.zero_int : Val.zero.int = 0 := rfl
@[go_sem] theorem Val.zero_text : Val.zero.text = [] := rfl
@[go_sem] theorem zxe (P : Program) (x y : Val) (k : List (TypeId × Nat)) : zb2 P k (zbv x) (zbv y) = zb2 P k [(.int .i64 x.kind), (.int .i64 x.int), (.str x.text)] [(.int .i64 y.kind), (.int .i64 y.int), (.str y.text)] := rfl
@[go_sem] theorem zye (x : Val) : cut (zbv x) 0 3 = zbv x := zb7 (zem x)
@[go_sem] theorem zu2 (x : Val) : cut (zbv x) 0 1 = [(.int .i64 x.kind)] := by
  simp [cut, zak]
@[go_sem] theorem zuH (x : Val) (v : Int) : put (zbv x) 0 ([(.int .i64 v)]) = zbv (x.setKind v) := by
  simp [put, zak, Val.setKind_kind, Val.setKind_int, Val.setKind_text]
@[go_sem] theorem zvT (x : Val) : cut (zbv x) 1 1 = [(.int .i64 x.int)] := by
  simp [cut, zak]
@[go_sem] theorem zvn (x : Val) (v : Int) : put (zbv x) 1 ([(.int .i64 v)]) = zbv (x.setInt v) := by
  simp [put, zak, Val.setInt_kind, Val.setInt_int, Val.setInt_text]
@[go_sem] theorem zu1 (x : Val) : cut (zbv x) 2 1 = [(.str x.text)] := by
  simp [cut, zak]
@[go_sem] theorem zuG (x : Val) (v : Str) : put (zbv x) 2 ([(.str v)]) = zbv (x.setText v) := by
  simp [put, zak, Val.setText_kind, Val.setText_int, Val.setText_text]
@[go_sem] theorem zvo (x y : Val) : put (zbv x) 0 (zbv y) = zbv y := zbW (zem x) (zem y)
structure zaR where
 table : Int
 seq : Int
def zaR.setTable : zaR → Int → zaR
 | .mk _ x1, v => .mk v x1
def zaR.setSeq : zaR → Int → zaR
 | .mk x0 _, v => .mk x0 v
def zaR.zero : zaR := .mk 0 0
def zbi (x : zaR) : List D := ([(.int .i64 x.table)]) ++ ([(.int .i64 x.seq)])
theorem zaj (x : zaR) : zbi x = ([(.int .i64 x.table)]) ++ ([(.int .i64 x.seq)]) := rfl
@[go_sem] theorem zaR.setTable_table (x : zaR) (v : Int) : (x.setTable v).table = v := by cases x; rfl
@[go_sem] theorem zaR.setTable_seq (x : zaR) (v : Int) : (x.setTable v).seq = x.seq := by cases x; rfl
@[go_sem] theorem zaR.setSeq_table (x : zaR) (v : Int) : (x.setSeq v).table = x.table := by cases x; rfl
@[go_sem] theorem zaR.setSeq_seq (x : zaR) (v : Int) : (x.setSeq v).seq = v := by cases x; rfl
@[go_sem] theorem zeJ (x : zaR) : (zbi x).length = 2 := by simp [zaj]
@[go_sem] theorem zkt (x : zaR) : zaG (zbi x) = true := by simp [zaj, zaU, zaG, cell, dSl]
@[go_sem] theorem zfQ (x : zaR) : zau (zbi x) = true := by simp [zaj, zaO, zau, still, dSl]
@[go_sem] theorem zoq (x : zaR) : zey (zbi x) = [] := by simp [zaj, zbr, zey, ids, dSl]
@[go_sem] theorem zn4 (ρ : Nm → Option (Nm × Nat)) (x : zaR) : zei ρ (zbi x) = some (zbi x) := by simp [zaj, zbp, zei, ren, dSl]
@[go_sem] theorem zuF (n : Nat) (x : zaR) : zbg (zcf n) (zbi x) = pure (zbi x, []) := zbq (zfQ x)
@[go_sem] theorem zaR.zero_table : zaR.zero.table = 0 := rfl
@[go_sem] theorem zaR.zero_seq : zaR.zero.seq = 0 := rfl
@[go_sem] theorem zvH (P : Program) (x y : zaR) (k : List (TypeId × Nat)) : zb2 P k (zbi x) (zbi y) = zb2 P k [(.int .i64 x.table), (.int .i64 x.seq)] [(.int .i64 y.table), (.int .i64 y.seq)] := rfl
@[go_sem] theorem zwn (x : zaR) : cut (zbi x) 0 2 = zbi x := zb7 (zeJ x)
@[go_sem] theorem zsI (x : zaR) : cut (zbi x) 0 1 = [(.int .i64 x.table)] := by
  simp [cut, zaj]
@[go_sem] theorem zrV (x : zaR) (v : Int) : put (zbi x) 0 ([(.int .i64 v)]) = zbi (x.setTable v) := by
  simp [put, zaj, zaR.setTable_table, zaR.setTable_seq]
@[go_sem] theorem zum (x : zaR) : cut (zbi x) 1 1 = [(.int .i64 x.seq)] := by
  simp [cut, zaj]
@[go_sem] theorem ztO (x : zaR) (v : Int) : put (zbi x) 1 ([(.int .i64 v)]) = zbi (x.setSeq v) := by
  simp [put, zaj, zaR.setSeq_table, zaR.setSeq_seq]
@[go_sem] theorem ztP (x y : zaR) : put (zbi x) 0 (zbi y) = zbi y := zbW (zeJ x) (zeJ y)
mutual
inductive zaE where
 | mk (coeff : Int) (factors : (Sl zaf))
inductive zaf where
 | mk (atom : zah) (exp : Int)
inductive zah where
 | mk (kind : Int) (row : zaR) (args : (Sl (Sl zaE))) (func : Int) (items : (Sl zac)) (op : Int) (bound : Val)
inductive zac where
 | mk (value : Val) (ann : (Sl zaE))
end
def zaE.coeff : zaE → Int
 | .mk x _ => x
def zaE.factors : zaE → (Sl zaf)
 | .mk _ x => x
def zaf.atom : zaf → zah
 | .mk x _ => x
def zaf.exp : zaf → Int
 | .mk _ x => x
def zah.kind : zah → Int
 | .mk x _ _ _ _ _ _ => x
def zah.row : zah → zaR
 | .mk _ x _ _ _ _ _ => x
def zah.args : zah → (Sl (Sl zaE))
 | .mk _ _ x _ _ _ _ => x
def zah.func : zah → Int
 | .mk _ _ _ x _ _ _ => x
def zah.items : zah → (Sl zac)
 | .mk _ _ _ _ x _ _ => x
def zah.op : zah → Int
 | .mk _ _ _ _ _ x _ => x
def zah.bound : zah → Val
 | .mk _ _ _ _ _ _ x => x
def zac.value : zac → Val
 | .mk x _ => x
def zac.ann : zac → (Sl zaE)
 | .mk _ x => x
def zaE.setCoeff : zaE → Int → zaE
 | .mk _ x1, v => .mk v x1
def zaE.setFactors : zaE → (Sl zaf) → zaE
 | .mk x0 _, v => .mk x0 v
def zaf.setAtom : zaf → zah → zaf
 | .mk _ x1, v => .mk v x1
def zaf.setExp : zaf → Int → zaf
 | .mk x0 _, v => .mk x0 v
def zah.setKind : zah → Int → zah
 | .mk _ x1 x2 x3 x4 x5 x6, v => .mk v x1 x2 x3 x4 x5 x6
def zah.setRow : zah → zaR → zah
 | .mk x0 _ x2 x3 x4 x5 x6, v => .mk x0 v x2 x3 x4 x5 x6
def zah.setArgs : zah → (Sl (Sl zaE)) → zah
 | .mk x0 x1 _ x3 x4 x5 x6, v => .mk x0 x1 v x3 x4 x5 x6
def zah.setFunc : zah → Int → zah
 | .mk x0 x1 x2 _ x4 x5 x6, v => .mk x0 x1 x2 v x4 x5 x6
def zah.setItems : zah → (Sl zac) → zah
 | .mk x0 x1 x2 x3 _ x5 x6, v => .mk x0 x1 x2 x3 v x5 x6
def zah.setOp : zah → Int → zah
 | .mk x0 x1 x2 x3 x4 _ x6, v => .mk x0 x1 x2 x3 x4 v x6
def zah.setBound : zah → Val → zah
 | .mk x0 x1 x2 x3 x4 x5 _, v => .mk x0 x1 x2 x3 x4 x5 v
def zac.setValue : zac → Val → zac
 | .mk _ x1, v => .mk v x1
def zac.setAnn : zac → (Sl zaE) → zac
 | .mk x0 _, v => .mk x0 v
def zaE.zero : zaE := .mk 0 Sl.nil
def zah.zero : zah := .mk 0 zaR.zero Sl.nil 0 Sl.nil 0 Val.zero
def zaf.zero : zaf := .mk zah.zero 0
def zac.zero : zac := .mk Val.zero Sl.nil
mutual
def zaL : zaE → List D
 | .mk x0 x1 => ([(.int .i64 x0)]) ++ ([zh5 x1])
def zar : zaf → List D
 | .mk x0 x1 => (zaS x0) ++ ([(.int .i64 x1)])
def zaS : zah → List D
 | .mk x0 x1 x2 x3 x4 x5 x6 => ([(.int .i64 x0)]) ++ (zbi x1) ++ ([zh3 x2]) ++ ([(.int .i64 x3)]) ++ ([zfN x4]) ++ ([(.int .i64 x5)]) ++ (zbv x6)
def zao : zac → List D
 | .mk x0 x1 => (zbv x0) ++ ([zht x1])
def zh5 : Sl zaf → D
 | .mk f l => .sl f (ziZ l)
def ziZ : List zaf → List (List D)
 | [] => []
 | x :: r => (zar x) :: ziZ r
def zh3 : Sl (Sl zaE) → D
 | .mk f l => .sl f (ziX l)
def ziX : List (Sl zaE) → List (List D)
 | [] => []
 | x :: r => ([zht x]) :: ziX r
def zht : Sl zaE → D
 | .mk f l => .sl f (zpV l)
def zpV : List zaE → List (List D)
 | [] => []
 | x :: r => (zaL x) :: zpV r
def zfN : Sl zac → D
 | .mk f l => .sl f (zgh l)
def zgh : List zac → List (List D)
 | [] => []
 | x :: r => (zao x) :: zgh r
end
theorem zoO (l : List zaf) : ziZ l = l.map zar := by
 induction l with
 | nil => rfl
 | cons x r ih => rw [ziZ, ih]; rfl
theorem zdS (s : Sl zaf) : zh5 s = dSl zar s := by cases s; simp only [zh5, dSl, zoO]
theorem znd (l : List zaE) : zpV l = l.map zaL := by
 induction l with
 | nil => rfl
 | cons x r ih => rw [zpV, ih]; rfl
theorem zfl (s : Sl zaE) : zht s = dSl zaL s := by cases s; simp only [zht, dSl, znd]
theorem zlW (l : List zac) : zgh l = l.map zao := by
 induction l with
 | nil => rfl
 | cons x r ih => rw [zgh, ih]; rfl
theorem zc9 (s : Sl zac) : zfN s = dSl zao s := by cases s; simp only [zfN, dSl, zlW]
theorem zoM (l : List (Sl zaE)) : ziX l = l.map (cSl zaL) := by
 induction l with
 | nil => rfl
 | cons x r ih => rw [ziX, ih]; cases x; simp only [List.map_cons, cSl, dSl, zht, znd]
theorem zdR (s : Sl (Sl zaE)) : zh3 s = dSl (cSl zaL) s := by cases s; simp only [zh3, dSl, zoM]
theorem zcu (x : zaE) : zaL x = ([(.int .i64 x.coeff)]) ++ ([(dSl zar x.factors)]) := by
 cases x; simp only [zaL, zdS, zdR, zfl, zc9, zaE.coeff, zaE.factors]
theorem zaw (x : zaf) : zar x = (zaS x.atom) ++ ([(.int .i64 x.exp)]) := by
 cases x; simp only [zar, zdS, zdR, zfl, zc9, zaf.atom, zaf.exp]
theorem zas (x : zah) : zaS x = ([(.int .i64 x.kind)]) ++ (zbi x.row) ++ ([(dSl (cSl zaL) x.args)]) ++ ([(.int .i64 x.func)]) ++ ([(dSl zao x.items)]) ++ ([(.int .i64 x.op)]) ++ (zbv x.bound) := by
 cases x; simp only [zaS, zdS, zdR, zfl, zc9, zah.kind, zah.row, zah.args, zah.func, zah.items, zah.op, zah.bound]
theorem zaH (x : zac) : zao x = (zbv x.value) ++ ([(dSl zaL x.ann)]) := by
 cases x; simp only [zao, zdS, zdR, zfl, zc9, zac.value, zac.ann]
@[go_sem] theorem zaE.setCoeff_coeff (x : zaE) (v : Int) : (x.setCoeff v).coeff = v := by cases x; rfl
@[go_sem] theorem zaE.setCoeff_factors (x : zaE) (v : Int) : (x.setCoeff v).factors = x.factors := by cases x; rfl
@[go_sem] theorem zaE.setFactors_coeff (x : zaE) (v : (Sl zaf)) : (x.setFactors v).coeff = x.coeff := by cases x; rfl
@[go_sem] theorem zaE.setFactors_factors (x : zaE) (v : (Sl zaf)) : (x.setFactors v).factors = v := by cases x; rfl
@[go_sem] theorem zhi (x : zaE) : (zaL x).length = 2 := by simp [zcu]
@[go_sem] theorem zuy (x : zaE) : zaG (zaL x) = true := by simp [zcu, zaU, zaG, cell, dSl]
@[go_sem] theorem zkr (x : zaE) : zau (zaL x) = true := by simp [zcu, zaO, zau, still, dSl]
@[go_sem] theorem zwb (x : zaE) : zey (zaL x) = [] := by simp [zcu, zbr, zey, ids, dSl]
@[go_sem] theorem zv5 (ρ : Nm → Option (Nm × Nat)) (x : zaE) : zei ρ (zaL x) = some (zaL x) := by simp [zcu, zbp, zei, ren, dSl]
@[go_sem] theorem zvi (n : Nat) (x : zaE) : zbg (zcf n) (zaL x) = pure (zaL x, []) := zbq (zkr x)
@[go_sem] theorem zaE.zero_coeff : zaE.zero.coeff = 0 := rfl
@[go_sem] theorem zaE.zero_factors : zaE.zero.factors = Sl.nil := rfl
@[go_sem] theorem zxl (x : zaE) : cut (zaL x) 0 2 = zaL x := zb7 (zhi x)
@[go_sem] theorem ztj (x : zaE) : cut (zaL x) 0 1 = [(.int .i64 x.coeff)] := by
  simp [cut, zcu]
@[go_sem] theorem zs6 (x : zaE) (v : Int) : put (zaL x) 0 ([(.int .i64 v)]) = zaL (x.setCoeff v) := by
  simp [put, zcu, zaE.setCoeff_coeff, zaE.setCoeff_factors]
@[go_sem] theorem zrm (x : zaE) : cut (zaL x) 1 1 = [(dSl zar x.factors)] := by
  simp [cut, zcu]
@[go_sem] theorem zrh (x : zaE) (v : (Sl zaf)) : put (zaL x) 1 ([(dSl zar v)]) = zaL (x.setFactors v) := by
  simp [put, zcu, zaE.setFactors_coeff, zaE.setFactors_factors]
@[go_sem] theorem ztM (x : zaE) (b : Nm) (g o l : Nat) : put (zaL x) 1 [.own b g o l] = [(.int .i64 x.coeff), .own b g o l] := by
  simp [put, zcu]
@[go_sem] theorem zuI (x y : zaE) : put (zaL x) 0 (zaL y) = zaL y := zbW (zhi x) (zhi y)
@[go_sem] theorem zah.setKind_kind (x : zah) (v : Int) : (x.setKind v).kind = v := by cases x; rfl
@[go_sem] theorem zah.setKind_row (x : zah) (v : Int) : (x.setKind v).row = x.row := by cases x; rfl
@[go_sem] theorem zah.setKind_args (x : zah) (v : Int) : (x.setKind v).args = x.args := by cases x; rfl
@[go_sem] theorem zah.setKind_func (x : zah) (v : Int) : (x.setKind v).func = x.func := by cases x; rfl
@[go_sem] theorem zah.setKind_items (x : zah) (v : Int) : (x.setKind v).items = x.items := by cases x; rfl
@[go_sem] theorem zah.setKind_op (x : zah) (v : Int) : (x.setKind v).op = x.op := by cases x; rfl
@[go_sem] theorem zah.setKind_bound (x : zah) (v : Int) : (x.setKind v).bound = x.bound := by cases x; rfl
@[go_sem] theorem zah.setRow_kind (x : zah) (v : zaR) : (x.setRow v).kind = x.kind := by cases x; rfl
@[go_sem] theorem zah.setRow_row (x : zah) (v : zaR) : (x.setRow v).row = v := by cases x; rfl
@[go_sem] theorem zah.setRow_args (x : zah) (v : zaR) : (x.setRow v).args = x.args := by cases x; rfl
@[go_sem] theorem zah.setRow_func (x : zah) (v : zaR) : (x.setRow v).func = x.func := by cases x; rfl
@[go_sem] theorem zah.setRow_items (x : zah) (v : zaR) : (x.setRow v).items = x.items := by cases x; rfl
@[go_sem] theorem zah.setRow_op (x : zah) (v : zaR) : (x.setRow v).op = x.op := by cases x; rfl
@[go_sem] theorem zah.setRow_bound (x : zah) (v : zaR) : (x.setRow v).bound = x.bound := by cases x; rfl
@[go_sem] theorem zah.setArgs_kind (x : zah) (v : (Sl (Sl zaE))) : (x.setArgs v).kind = x.kind := by cases x; rfl
@[go_sem] theorem zah.setArgs_row (x : zah) (v : (Sl (Sl zaE))) : (x.setArgs v).row = x.row := by cases x; rfl
@[go_sem] theorem zah.setArgs_args (x : zah) (v : (Sl (Sl zaE))) : (x.setArgs v).args = v := by cases x; rfl
@[go_sem] theorem zah.setArgs_func (x : zah) (v : (Sl (Sl zaE))) : (x.setArgs v).func = x.func := by cases x; rfl
@[go_sem] theorem zah.setArgs_items (x : zah) (v : (Sl (Sl zaE))) : (x.setArgs v).items = x.items := by cases x; rfl
@[go_sem] theorem zah.setArgs_op (x : zah) (v : (Sl (Sl zaE))) : (x.setArgs v).op = x.op := by cases x; rfl
@[go_sem] theorem zah.setArgs_bound (x : zah) (v : (Sl (Sl zaE))) : (x.setArgs v).bound = x.bound := by cases x; rfl
@[go_sem] theorem zah.setFunc_kind (x : zah) (v : Int) : (x.setFunc v).kind = x.kind := by cases x; rfl
@[go_sem] theorem zah.setFunc_row (x : zah) (v : Int) : (x.setFunc v).row = x.row := by cases x; rfl
@[go_sem] theorem zah.setFunc_args (x : zah) (v : Int) : (x.setFunc v).args = x.args := by cases x; rfl
@[go_sem] theorem zah.setFunc_func (x : zah) (v : Int) : (x.setFunc v).func = v := by cases x; rfl
@[go_sem] theorem zah.setFunc_items (x : zah) (v : Int) : (x.setFunc v).items = x.items := by cases x; rfl
@[go_sem] theorem zah.setFunc_op (x : zah) (v : Int) : (x.setFunc v).op = x.op := by cases x; rfl
@[go_sem] theorem zah.setFunc_bound (x : zah) (v : Int) : (x.setFunc v).bound = x.bound := by cases x; rfl
@[go_sem] theorem zah.setItems_kind (x : zah) (v : (Sl zac)) : (x.setItems v).kind = x.kind := by cases x; rfl
@[go_sem] theorem zah.setItems_row (x : zah) (v : (Sl zac)) : (x.setItems v).row = x.row := by cases x; rfl
@[go_sem] theorem zah.setItems_args (x : zah) (v : (Sl zac)) : (x.setItems v).args = x.args := by cases x; rfl
@[go_sem] theorem zah.setItems_func (x : zah) (v : (Sl zac)) : (x.setItems v).func = x.func := by cases x; rfl
@[go_sem] theorem zah.setItems_items (x : zah) (v : (Sl zac)) : (x.setItems v).items = v := by cases x; rfl
@[go_sem] theorem zah.setItems_op (x : zah) (v : (Sl zac)) : (x.setItems v).op = x.op := by cases x; rfl
@[go_sem] theorem zah.setItems_bound (x : zah) (v : (Sl zac)) : (x.setItems v).bound = x.bound := by cases x; rfl
@[go_sem] theorem zah.setOp_kind (x : zah) (v : Int) : (x.setOp v).kind = x.kind := by cases x; rfl
@[go_sem] theorem zah.setOp_row (x : zah) (v : Int) : (x.setOp v).row = x.row := by cases x; rfl
@[go_sem] theorem zah.setOp_args (x : zah) (v : Int) : (x.setOp v).args = x.args := by cases x; rfl
@[go_sem] theorem zah.setOp_func (x : zah) (v : Int) : (x.setOp v).func = x.func := by cases x; rfl
@[go_sem] theorem zah.setOp_items (x : zah) (v : Int) : (x.setOp v).items = x.items := by cases x; rfl
@[go_sem] theorem zah.setOp_op (x : zah) (v : Int) : (x.setOp v).op = v := by cases x; rfl
@[go_sem] theorem zah.setOp_bound (x : zah) (v : Int) : (x.setOp v).bound = x.bound := by cases x; rfl
@[go_sem] theorem zah.setBound_kind (x : zah) (v : Val) : (x.setBound v).kind = x.kind := by cases x; rfl
@[go_sem] theorem zah.setBound_row (x : zah) (v : Val) : (x.setBound v).row = x.row := by cases x; rfl
@[go_sem] theorem zah.setBound_args (x : zah) (v : Val) : (x.setBound v).args = x.args := by cases x; rfl
@[go_sem] theorem zah.setBound_func (x : zah) (v : Val) : (x.setBound v).func = x.func := by cases x; rfl
@[go_sem] theorem zah.setBound_items (x : zah) (v : Val) : (x.setBound v).items = x.items := by cases x; rfl
@[go_sem] theorem zah.setBound_op (x : zah) (v : Val) : (x.setBound v).op = x.op := by cases x; rfl
@[go_sem] theorem zah.setBound_bound (x : zah) (v : Val) : (x.setBound v).bound = v := by cases x; rfl
@[go_sem] theorem zfI (x : zah) : (zaS x).length = 10 := by simp [zas, zeJ, zem]
@[go_sem] theorem zl1 (x : zah) : zaG (zaS x) = true := by simp [zas, zaU, zaG, cell, dSl, zkt, zfS]
@[go_sem] theorem zgE (x : zah) : zau (zaS x) = true := by simp [zas, zaO, zau, still, dSl, zfQ, zdT]
@[go_sem] theorem zqx (x : zah) : zey (zaS x) = [] := by simp [zas, zbr, zey, ids, dSl, zoq, zjp]
@[go_sem] theorem zqf (ρ : Nm → Option (Nm × Nat)) (x : zah) : zei ρ (zaS x) = some (zaS x) := by simp [zas, zbp, zei, ren, dSl, zn4, zjf]
@[go_sem] theorem zvk (n : Nat) (x : zah) : zbg (zcf n) (zaS x) = pure (zaS x, []) := zbq (zgE x)
@[go_sem] theorem zah.zero_kind : zah.zero.kind = 0 := rfl
@[go_sem] theorem zah.zero_row : zah.zero.row = zaR.zero := rfl
@[go_sem] theorem zah.zero_args : zah.zero.args = Sl.nil := rfl
@[go_sem] theorem zah.zero_func : zah.zero.func = 0 := rfl
@[go_sem] theorem zah.zero_items : zah.zero.items = Sl.nil := rfl
@[go_sem] theorem zah.zero_op : zah.zero.op = 0 := rfl
@[go_sem] theorem zah.zero_bound : zah.zero.bound = Val.zero := rfl
@[go_sem] theorem zxn (x : zah) : cut (zaS x) 0 10 = zaS x := zb7 (zfI x)
@[go_sem] theorem zun (x : zah) : cut (zaS x) 0 1 = [(.int .i64 x.kind)] := by
  simp [cut, zas, zaj, zak]
@[go_sem] theorem ztU (x : zah) (v : Int) : put (zaS x) 0 ([(.int .i64 v)]) = zaS (x.setKind v) := by
  simp [put, zas, zaj, zak, zah.setKind_kind, zah.setKind_row, zah.setKind_args, zah.setKind_func, zah.setKind_items, zah.setKind_op, zah.setKind_bound]
@[go_sem] theorem zu4 (x : zah) : cut (zaS x) 1 2 = zbi x.row := by
  simp [cut, zas, zaj, zak]
@[go_sem] theorem zuL (x : zah) (v : zaR) : put (zaS x) 1 (zbi v) = zaS (x.setRow v) := by
  simp [put, zas, zaj, zak, zah.setRow_kind, zah.setRow_row, zah.setRow_args, zah.setRow_func, zah.setRow_items, zah.setRow_op, zah.setRow_bound]
@[go_sem] theorem zpP (x : zah) : cut (zaS x) 1 1 = [(.int .i64 x.row.table)] := by
  simp [cut, zas, zaj, zak]
@[go_sem] theorem zph (x : zah) (v : Int) : put (zaS x) 1 ([(.int .i64 v)]) = zaS (x.setRow (x.row.setTable v)) := by
  simp [put, zas, zaj, zak, zah.setRow_kind, zah.setRow_row, zah.setRow_args, zah.setRow_func, zah.setRow_items, zah.setRow_op, zah.setRow_bound, zaR.setTable_table, zaR.setTable_seq]
@[go_sem] theorem zro (x : zah) : cut (zaS x) 2 1 = [(.int .i64 x.row.seq)] := by
  simp [cut, zas, zaj, zak]
@[go_sem] theorem zrj (x : zah) (v : Int) : put (zaS x) 2 ([(.int .i64 v)]) = zaS (x.setRow (x.row.setSeq v)) := by
  simp [put, zas, zaj, zak, zah.setRow_kind, zah.setRow_row, zah.setRow_args, zah.setRow_func, zah.setRow_items, zah.setRow_op, zah.setRow_bound, zaR.setSeq_table, zaR.setSeq_seq]
@[go_sem] theorem zup (x : zah) : cut (zaS x) 3 1 = [(dSl (cSl zaL) x.args)] := by
  simp [cut, zas, zaj, zak]
@[go_sem] theorem ztW (x : zah) (v : (Sl (Sl zaE))) : put (zaS x) 3 ([(dSl (cSl zaL) v)]) = zaS (x.setArgs v) := by
  simp [put, zas, zaj, zak, zah.setArgs_kind, zah.setArgs_row, zah.setArgs_args, zah.setArgs_func, zah.setArgs_items, zah.setArgs_op, zah.setArgs_bound]
@[go_sem] theorem zuo (x : zah) : cut (zaS x) 4 1 = [(.int .i64 x.func)] := by
  simp [cut, zas, zaj, zak]
@[go_sem] theorem ztV (x : zah) (v : Int) : put (zaS x) 4 ([(.int .i64 v)]) = zaS (x.setFunc v) := by
  simp [put, zas, zaj, zak, zah.setFunc_kind, zah.setFunc_row, zah.setFunc_args, zah.setFunc_func, zah.setFunc_items, zah.setFunc_op, zah.setFunc_bound]
@[go_sem] theorem ztl (x : zah) : cut (zaS x) 5 1 = [(dSl zao x.items)] := by
  simp [cut, zas, zaj, zak]
@[go_sem] theorem zta (x : zah) (v : (Sl zac)) : put (zaS x) 5 ([(dSl zao v)]) = zaS (x.setItems v) := by
  simp [put, zas, zaj, zak, zah.setItems_kind, zah.setItems_row, zah.setItems_args, zah.setItems_func, zah.setItems_items, zah.setItems_op, zah.setItems_bound]
@[go_sem] theorem zvU (x : zah) : cut (zaS x) 6 1 = [(.int .i64 x.op)] := by
  simp [cut, zas, zaj, zak]
@[go_sem] theorem zvp (x : zah) (v : Int) : put (zaS x) 6 ([(.int .i64 v)]) = zaS (x.setOp v) := by
  simp [put, zas, zaj, zak, zah.setOp_kind, zah.setOp_row, zah.setOp_args, zah.setOp_func, zah.setOp_items, zah.setOp_op, zah.setOp_bound]
@[go_sem] theorem ztm (x : zah) : cut (zaS x) 7 3 = zbv x.bound := by
  simp [cut, zas, zaj, zak]
@[go_sem] theorem ztb (x : zah) (v : Val) : put (zaS x) 7 (zbv v) = zaS (x.setBound v) := by
  simp [put, zas, zaj, zak, zah.setBound_kind, zah.setBound_row, zah.setBound_args, zah.setBound_func, zah.setBound_items, zah.setBound_op, zah.setBound_bound]
@[go_sem] theorem zoH (x : zah) : cut (zaS x) 7 1 = [(.int .i64 x.bound.kind)] := by
  simp [cut, zas, zaj, zak]
@[go_sem] theorem zod (x : zah) (v : Int) : put (zaS x) 7 ([(.int .i64 v)]) = zaS (x.setBound (x.bound.setKind v)) := by
  simp [put, zas, zaj, zak, zah.setBound_kind, zah.setBound_row, zah.setBound_args, zah.setBound_func, zah.setBound_items, zah.setBound_op, zah.setBound_bound, Val.setKind_kind, Val.setKind_int, Val.setKind_text]
@[go_sem] theorem zpQ (x : zah) : cut (zaS x) 8 1 = [(.int .i64 x.bound.int)] := by
  simp [cut, zas, zaj, zak]
@[go_sem] theorem zpi (x : zah) (v : Int) : put (zaS x) 8 ([(.int .i64 v)]) = zaS (x.setBound (x.bound.setInt v)) := by
  simp [put, zas, zaj, zak, zah.setBound_kind, zah.setBound_row, zah.setBound_args, zah.setBound_func, zah.setBound_items, zah.setBound_op, zah.setBound_bound, Val.setInt_kind, Val.setInt_int, Val.setInt_text]
@[go_sem] theorem zoG (x : zah) : cut (zaS x) 9 1 = [(.str x.bound.text)] := by
  simp [cut, zas, zaj, zak]
@[go_sem] theorem zoc (x : zah) (v : Str) : put (zaS x) 9 ([(.str v)]) = zaS (x.setBound (x.bound.setText v)) := by
  simp [put, zas, zaj, zak, zah.setBound_kind, zah.setBound_row, zah.setBound_args, zah.setBound_func, zah.setBound_items, zah.setBound_op, zah.setBound_bound, Val.setText_kind, Val.setText_int, Val.setText_text]
@[go_sem] theorem ztT (x : zah) (b : Nm) (g o l : Nat) : put (zaS x) 3 [.own b g o l] = [(.int .i64 x.kind), (.int .i64 x.row.table), (.int .i64 x.row.seq), .own b g o l, (.int .i64 x.func), (dSl zao x.items), (.int .i64 x.op), (.int .i64 x.bound.kind), (.int .i64 x.bound.int), (.str x.bound.text)] := by
  simp [put, zas, zaj, zak]
@[go_sem] theorem ztS (x : zah) (b : Nm) (g o l : Nat) : put (zaS x) 5 [.own b g o l] = [(.int .i64 x.kind), (.int .i64 x.row.table), (.int .i64 x.row.seq), (dSl (cSl zaL) x.args), (.int .i64 x.func), .own b g o l, (.int .i64 x.op), (.int .i64 x.bound.kind), (.int .i64 x.bound.int), (.str x.bound.text)] := by
  simp [put, zas, zaj, zak]
@[go_sem] theorem zuM (x y : zah) : put (zaS x) 0 (zaS y) = zaS y := zbW (zfI x) (zfI y)
@[go_sem] theorem zaf.setAtom_atom (x : zaf) (v : zah) : (x.setAtom v).atom = v := by cases x; rfl
@[go_sem] theorem zaf.setAtom_exp (x : zaf) (v : zah) : (x.setAtom v).exp = x.exp := by cases x; rfl
@[go_sem] theorem zaf.setExp_atom (x : zaf) (v : Int) : (x.setExp v).atom = x.atom := by cases x; rfl
@[go_sem] theorem zaf.setExp_exp (x : zaf) (v : Int) : (x.setExp v).exp = v := by cases x; rfl
@[go_sem] theorem zfd (x : zaf) : (zar x).length = 11 := by simp [zaw, zfI]
@[go_sem] theorem zsT (x : zaf) : zaG (zar x) = true := by simp [zaw, zaU, zaG, cell, dSl, zl1]
@[go_sem] theorem ziG (x : zaf) : zau (zar x) = true := by simp [zaw, zaO, zau, still, dSl, zgE]
@[go_sem] theorem zuT (x : zaf) : zey (zar x) = [] := by simp [zaw, zbr, zey, ids, dSl, zqx]
@[go_sem] theorem zuE (ρ : Nm → Option (Nm × Nat)) (x : zaf) : zei ρ (zar x) = some (zar x) := by simp [zaw, zbp, zei, ren, dSl, zqf]
@[go_sem] theorem ztK (n : Nat) (x : zaf) : zbg (zcf n) (zar x) = pure (zar x, []) := zbq (ziG x)
@[go_sem] theorem zaf.zero_atom : zaf.zero.atom = zah.zero := rfl
@[go_sem] theorem zaf.zero_exp : zaf.zero.exp = 0 := rfl
@[go_sem] theorem zvR (x : zaf) : cut (zar x) 0 11 = zar x := zb7 (zfd x)
@[go_sem] theorem zsJ (x : zaf) : cut (zar x) 0 10 = zaS x.atom := by
  simp [cut, zaw, zas, zaj, zak]
@[go_sem] theorem zrY (x : zaf) (v : zah) : put (zar x) 0 (zaS v) = zar (x.setAtom v) := by
  simp [put, zaw, zas, zaj, zak, zaf.setAtom_atom, zaf.setAtom_exp]
@[go_sem] theorem znK (x : zaf) : cut (zar x) 0 1 = [(.int .i64 x.atom.kind)] := by
  simp [cut, zaw, zas, zaj, zak]
@[go_sem] theorem znE (x : zaf) (v : Int) : put (zar x) 0 ([(.int .i64 v)]) = zar (x.setAtom (x.atom.setKind v)) := by
  simp [put, zaw, zas, zaj, zak, zaf.setAtom_atom, zaf.setAtom_exp, zah.setKind_kind, zah.setKind_row, zah.setKind_args, zah.setKind_func, zah.setKind_items, zah.setKind_op, zah.setKind_bound]
@[go_sem] theorem zoE (x : zaf) : cut (zar x) 1 2 = zbi x.atom.row := by
  simp [cut, zaw, zas, zaj, zak]
@[go_sem] theorem zn9 (x : zaf) (v : zaR) : put (zar x) 1 (zbi v) = zar (x.setAtom (x.atom.setRow v)) := by
  simp [put, zaw, zas, zaj, zak, zaf.setAtom_atom, zaf.setAtom_exp, zah.setRow_kind, zah.setRow_row, zah.setRow_args, zah.setRow_func, zah.setRow_items, zah.setRow_op, zah.setRow_bound]
@[go_sem] theorem zkm (x : zaf) : cut (zar x) 1 1 = [(.int .i64 x.atom.row.table)] := by
  simp [cut, zaw, zas, zaj, zak]
@[go_sem] theorem zj8 (x : zaf) (v : Int) : put (zar x) 1 ([(.int .i64 v)]) = zar (x.setAtom (x.atom.setRow (x.atom.row.setTable v))) := by
  simp [put, zaw, zas, zaj, zak, zaf.setAtom_atom, zaf.setAtom_exp, zah.setRow_kind, zah.setRow_row, zah.setRow_args, zah.setRow_func, zah.setRow_items, zah.setRow_op, zah.setRow_bound, zaR.setTable_table, zaR.setTable_seq]
@[go_sem] theorem zlU (x : zaf) : cut (zar x) 2 1 = [(.int .i64 x.atom.row.seq)] := by
  simp [cut, zaw, zas, zaj, zak]
@[go_sem] theorem zlm (x : zaf) (v : Int) : put (zar x) 2 ([(.int .i64 v)]) = zar (x.setAtom (x.atom.setRow (x.atom.row.setSeq v))) := by
  simp [put, zaw, zas, zaj, zak, zaf.setAtom_atom, zaf.setAtom_exp, zah.setRow_kind, zah.setRow_row, zah.setRow_args, zah.setRow_func, zah.setRow_items, zah.setRow_op, zah.setRow_bound, zaR.setSeq_table, zaR.setSeq_seq]
@[go_sem] theorem znM (x : zaf) : cut (zar x) 3 1 = [(dSl (cSl zaL) x.atom.args)] := by
  simp [cut, zaw, zas, zaj, zak]
@[go_sem] theorem znG (x : zaf) (v : (Sl (Sl zaE))) : put (zar x) 3 ([(dSl (cSl zaL) v)]) = zar (x.setAtom (x.atom.setArgs v)) := by
  simp [put, zaw, zas, zaj, zak, zaf.setAtom_atom, zaf.setAtom_exp, zah.setArgs_kind, zah.setArgs_row, zah.setArgs_args, zah.setArgs_func, zah.setArgs_items, zah.setArgs_op, zah.setArgs_bound]
@[go_sem] theorem znL (x : zaf) : cut (zar x) 4 1 = [(.int .i64 x.atom.func)] := by
  simp [cut, zaw, zas, zaj, zak]
@[go_sem] theorem znF (x : zaf) (v : Int) : put (zar x) 4 ([(.int .i64 v)]) = zar (x.setAtom (x.atom.setFunc v)) := by
  simp [put, zaw, zas, zaj, zak, zaf.setAtom_atom, zaf.setAtom_exp, zah.setFunc_kind, zah.setFunc_row, zah.setFunc_args, zah.setFunc_func, zah.setFunc_items, zah.setFunc_op, zah.setFunc_bound]
@[go_sem] theorem zm6 (x : zaf) : cut (zar x) 5 1 = [(dSl zao x.atom.items)] := by
  simp [cut, zaw, zas, zaj, zak]
@[go_sem] theorem zmy (x : zaf) (v : (Sl zac)) : put (zar x) 5 ([(dSl zao v)]) = zar (x.setAtom (x.atom.setItems v)) := by
  simp [put, zaw, zas, zaj, zak, zaf.setAtom_atom, zaf.setAtom_exp, zah.setItems_kind, zah.setItems_row, zah.setItems_args, zah.setItems_func, zah.setItems_items, zah.setItems_op, zah.setItems_bound]
@[go_sem] theorem zpN (x : zaf) : cut (zar x) 6 1 = [(.int .i64 x.atom.op)] := by
  simp [cut, zaw, zas, zaj, zak]
@[go_sem] theorem zpc (x : zaf) (v : Int) : put (zar x) 6 ([(.int .i64 v)]) = zar (x.setAtom (x.atom.setOp v)) := by
  simp [put, zaw, zas, zaj, zak, zaf.setAtom_atom, zaf.setAtom_exp, zah.setOp_kind, zah.setOp_row, zah.setOp_args, zah.setOp_func, zah.setOp_items, zah.setOp_op, zah.setOp_bound]
@[go_sem] theorem zm7 (x : zaf) : cut (zar x) 7 3 = zbv x.atom.bound := by
  simp [cut, zaw, zas, zaj, zak]
@[go_sem] theorem zmz (x : zaf) (v : Val) : put (zar x) 7 (zbv v) = zar (x.setAtom (x.atom.setBound v)) := by
  simp [put, zaw, zas, zaj, zak, zaf.setAtom_atom, zaf.setAtom_exp, zah.setBound_kind, zah.setBound_row, zah.setBound_args, zah.setBound_func, zah.setBound_items, zah.setBound_op, zah.setBound_bound]
@[go_sem] theorem zj4 (x : zaf) : cut (zar x) 7 1 = [(.int .i64 x.atom.bound.kind)] := by
  simp [cut, zaw, zas, zaj, zak]
@[go_sem] theorem zj1 (x : zaf) (v : Int) : put (zar x) 7 ([(.int .i64 v)]) = zar (x.setAtom (x.atom.setBound (x.atom.bound.setKind v))) := by
  simp [put, zaw, zas, zaj, zak, zaf.setAtom_atom, zaf.setAtom_exp, zah.setBound_kind, zah.setBound_row, zah.setBound_args, zah.setBound_func, zah.setBound_items, zah.setBound_op, zah.setBound_bound, Val.setKind_kind, Val.setKind_int, Val.setKind_text]
@[go_sem] theorem zkn (x : zaf) : cut (zar x) 8 1 = [(.int .i64 x.atom.bound.int)] := by
  simp [cut, zaw, zas, zaj, zak]
@[go_sem] theorem zj9 (x : zaf) (v : Int) : put (zar x) 8 ([(.int .i64 v)]) = zar (x.setAtom (x.atom.setBound (x.atom.bound.setInt v))) := by
  simp [put, zaw, zas, zaj, zak, zaf.setAtom_atom, zaf.setAtom_exp, zah.setBound_kind, zah.setBound_row, zah.setBound_args, zah.setBound_func, zah.setBound_items, zah.setBound_op, zah.setBound_bound, Val.setInt_kind, Val.setInt_int, Val.setInt_text]
@[go_sem] theorem zj3 (x : zaf) : cut (zar x) 9 1 = [(.str x.atom.bound.text)] := by
  simp [cut, zaw, zas, zaj, zak]
@[go_sem] theorem zj0 (x : zaf) (v : Str) : put (zar x) 9 ([(.str v)]) = zar (x.setAtom (x.atom.setBound (x.atom.bound.setText v))) := by
  simp [put, zaw, zas, zaj, zak, zaf.setAtom_atom, zaf.setAtom_exp, zah.setBound_kind, zah.setBound_row, zah.setBound_args, zah.setBound_func, zah.setBound_items, zah.setBound_op, zah.setBound_bound, Val.setText_kind, Val.setText_int, Val.setText_text]
@[go_sem] theorem ztk (x : zaf) : cut (zar x) 10 1 = [(.int .i64 x.exp)] := by
  simp [cut, zaw, zas, zaj, zak]
@[go_sem] theorem zs8 (x : zaf) (v : Int) : put (zar x) 10 ([(.int .i64 v)]) = zar (x.setExp v) := by
  simp [put, zaw, zas, zaj, zak, zaf.setExp_atom, zaf.setExp_exp]
@[go_sem] theorem zrX (x : zaf) (b : Nm) (g o l : Nat) : put (zar x) 3 [.own b g o l] = [(.int .i64 x.atom.kind), (.int .i64 x.atom.row.table), (.int .i64 x.atom.row.seq), .own b g o l, (.int .i64 x.atom.func), (dSl zao x.atom.items), (.int .i64 x.atom.op), (.int .i64 x.atom.bound.kind), (.int .i64 x.atom.bound.int), (.str x.atom.bound.text), (.int .i64 x.exp)] := by
  simp [put, zaw, zas, zaj, zak]
@[go_sem] theorem zrW (x : zaf) (b : Nm) (g o l : Nat) : put (zar x) 5 [.own b g o l] = [(.int .i64 x.atom.kind), (.int .i64 x.atom.row.table), (.int .i64 x.atom.row.seq), (dSl (cSl zaL) x.atom.args), (.int .i64 x.atom.func), .own b g o l, (.int .i64 x.atom.op), (.int .i64 x.atom.bound.kind), (.int .i64 x.atom.bound.int), (.str x.atom.bound.text), (.int .i64 x.exp)] := by
  simp [put, zaw, zas, zaj, zak]
@[go_sem] theorem zs9 (x y : zaf) : put (zar x) 0 (zar y) = zar y := zbW (zfd x) (zfd y)
@[go_sem] theorem zac.setValue_value (x : zac) (v : Val) : (x.setValue v).value = v := by cases x; rfl
@[go_sem] theorem zac.setValue_ann (x : zac) (v : Val) : (x.setValue v).ann = x.ann := by cases x; rfl
@[go_sem] theorem zac.setAnn_value (x : zac) (v : (Sl zaE)) : (x.setAnn v).value = x.value := by cases x; rfl
@[go_sem] theorem zac.setAnn_ann (x : zac) (v : (Sl zaE)) : (x.setAnn v).ann = v := by cases x; rfl
@[go_sem] theorem zdQ (x : zac) : (zao x).length = 4 := by simp [zaH, zem]
@[go_sem] theorem zq1 (x : zac) : zaG (zao x) = true := by simp [zaH, zaU, zaG, cell, dSl, zfS]
@[go_sem] theorem zhx (x : zac) : zau (zao x) = true := by simp [zaH, zaO, zau, still, dSl, zdT]
@[go_sem] theorem ztd (x : zac) : zey (zao x) = [] := by simp [zaH, zbr, zey, ids, dSl, zjp]
@[go_sem] theorem zs5 (ρ : Nm → Option (Nm × Nat)) (x : zac) : zei ρ (zao x) = some (zao x) := by simp [zaH, zbp, zei, ren, dSl, zjf]
@[go_sem] theorem zrM (n : Nat) (x : zac) : zbg (zcf n) (zao x) = pure (zao x, []) := zbq (zhx x)
@[go_sem] theorem zac.zero_value : zac.zero.value = Val.zero := rfl
@[go_sem] theorem zac.zero_ann : zac.zero.ann = Sl.nil := rfl
@[go_sem] theorem zuk (x : zac) : cut (zao x) 0 4 = zao x := zb7 (zdQ x)
@[go_sem] theorem zpL (x : zac) : cut (zao x) 0 3 = zbv x.value := by
  simp [cut, zaH, zak]
@[go_sem] theorem zpa (x : zac) (v : Val) : put (zao x) 0 (zbv v) = zao (x.setValue v) := by
  simp [put, zaH, zak, zac.setValue_value, zac.setValue_ann]
@[go_sem] theorem zlT (x : zac) : cut (zao x) 0 1 = [(.int .i64 x.value.kind)] := by
  simp [cut, zaH, zak]
@[go_sem] theorem zll (x : zac) (v : Int) : put (zao x) 0 ([(.int .i64 v)]) = zao (x.setValue (x.value.setKind v)) := by
  simp [put, zaH, zak, zac.setValue_value, zac.setValue_ann, Val.setKind_kind, Val.setKind_int, Val.setKind_text]
@[go_sem] theorem zmk (x : zac) : cut (zao x) 1 1 = [(.int .i64 x.value.int)] := by
  simp [cut, zaH, zak]
@[go_sem] theorem zmh (x : zac) (v : Int) : put (zao x) 1 ([(.int .i64 v)]) = zao (x.setValue (x.value.setInt v)) := by
  simp [put, zaH, zak, zac.setValue_value, zac.setValue_ann, Val.setInt_kind, Val.setInt_int, Val.setInt_text]
@[go_sem] theorem zlS (x : zac) : cut (zao x) 2 1 = [(.str x.value.text)] := by
  simp [cut, zaH, zak]
@[go_sem] theorem zlk (x : zac) (v : Str) : put (zao x) 2 ([(.str v)]) = zao (x.setValue (x.value.setText v)) := by
  simp [put, zaH, zak, zac.setValue_value, zac.setValue_ann, Val.setText_kind, Val.setText_int, Val.setText_text]
@[go_sem] theorem zrl (x : zac) : cut (zao x) 3 1 = [(dSl zaL x.ann)] := by
  simp [cut, zaH, zak]
@[go_sem] theorem zrf (x : zac) (v : (Sl zaE)) : put (zao x) 3 ([(dSl zaL v)]) = zao (x.setAnn v) := by
  simp [put, zaH, zak, zac.setAnn_value, zac.setAnn_ann]
@[go_sem] theorem zqi (x : zac) (b : Nm) (g o l : Nat) : put (zao x) 3 [.own b g o l] = [(.int .i64 x.value.kind), (.int .i64 x.value.int), (.str x.value.text), .own b g o l] := by
  simp [put, zaH, zak]
@[go_sem] theorem zrg (x y : zac) : put (zao x) 0 (zao y) = zao y := zbW (zdQ x) (zdQ y)
structure zaK where
 values : (Sl Val)
 ann : (Sl zaE)
def zaK.setValues : zaK → (Sl Val) → zaK
 | .mk _ x1, v => .mk v x1
def zaK.setAnn : zaK → (Sl zaE) → zaK
 | .mk x0 _, v => .mk x0 v
def zaK.zero : zaK := .mk Sl.nil Sl.nil
def za4 (x : zaK) : List D := ([(dSl zbv x.values)]) ++ ([(dSl zaL x.ann)])
theorem zcv (x : zaK) : za4 x = ([(dSl zbv x.values)]) ++ ([(dSl zaL x.ann)]) := rfl
@[go_sem] theorem zaK.setValues_values (x : zaK) (v : (Sl Val)) : (x.setValues v).values = v := by cases x; rfl
@[go_sem] theorem zaK.setValues_ann (x : zaK) (v : (Sl Val)) : (x.setValues v).ann = x.ann := by cases x; rfl
@[go_sem] theorem zaK.setAnn_values (x : zaK) (v : (Sl zaE)) : (x.setAnn v).values = x.values := by cases x; rfl
@[go_sem] theorem zaK.setAnn_ann (x : zaK) (v : (Sl zaE)) : (x.setAnn v).ann = v := by cases x; rfl
@[go_sem] theorem zjl (x : zaK) : (za4 x).length = 2 := by simp [zcv]
@[go_sem] theorem zuz (x : zaK) : zaG (za4 x) = true := by simp [zcv, zaU, zaG, cell, dSl]
@[go_sem] theorem zks (x : zaK) : zau (za4 x) = true := by simp [zcv, zaO, zau, still, dSl]
@[go_sem] theorem zwc (x : zaK) : zey (za4 x) = [] := by simp [zcv, zbr, zey, ids, dSl]
@[go_sem] theorem zv6 (ρ : Nm → Option (Nm × Nat)) (x : zaK) : zei ρ (za4 x) = some (za4 x) := by simp [zcv, zbp, zei, ren, dSl]
@[go_sem] theorem zvj (n : Nat) (x : zaK) : zbg (zcf n) (za4 x) = pure (za4 x, []) := zbq (zks x)
@[go_sem] theorem zaK.zero_values : zaK.zero.values = Sl.nil := rfl
@[go_sem] theorem zaK.zero_ann : zaK.zero.ann = Sl.nil := rfl
@[go_sem] theorem zxm (x : zaK) : cut (za4 x) 0 2 = za4 x := zb7 (zjl x)
@[go_sem] theorem zsK (x : zaK) : cut (za4 x) 0 1 = [(dSl zbv x.values)] := by
  simp [cut, zcv]
@[go_sem] theorem zrZ (x : zaK) (v : (Sl Val)) : put (za4 x) 0 ([(dSl zbv v)]) = za4 (x.setValues v) := by
  simp [put, zcv, zaK.setValues_values, zaK.setValues_ann]
@[go_sem] theorem zu3 (x : zaK) : cut (za4 x) 1 1 = [(dSl zaL x.ann)] := by
  simp [cut, zcv]
@[go_sem] theorem zuJ (x : zaK) (v : (Sl zaE)) : put (za4 x) 1 ([(dSl zaL v)]) = za4 (x.setAnn v) := by
  simp [put, zcv, zaK.setAnn_values, zaK.setAnn_ann]
@[go_sem] theorem ztR (x : zaK) (b : Nm) (g o l : Nat) : put (za4 x) 0 [.own b g o l] = [.own b g o l, (dSl zaL x.ann)] := by
  simp [put, zcv]
@[go_sem] theorem ztQ (x : zaK) (b : Nm) (g o l : Nat) : put (za4 x) 1 [.own b g o l] = [(dSl zbv x.values), .own b g o l] := by
  simp [put, zcv]
@[go_sem] theorem zuK (x y : zaK) : put (za4 x) 0 (za4 y) = za4 y := zbW (zjl x) (zjl y)
mutual
inductive zae where
 | mk (kind : Int) (column : Int) (value : Val) (op : Int) (args : (Sl zae))
end
def zae.kind : zae → Int
 | .mk x _ _ _ _ => x
def zae.column : zae → Int
 | .mk _ x _ _ _ => x
def zae.value : zae → Val
 | .mk _ _ x _ _ => x
def zae.op : zae → Int
 | .mk _ _ _ x _ => x
def zae.args : zae → (Sl zae)
 | .mk _ _ _ _ x => x
def zae.setKind : zae → Int → zae
 | .mk _ x1 x2 x3 x4, v => .mk v x1 x2 x3 x4
def zae.setColumn : zae → Int → zae
 | .mk x0 _ x2 x3 x4, v => .mk x0 v x2 x3 x4
def zae.setValue : zae → Val → zae
 | .mk x0 x1 _ x3 x4, v => .mk x0 x1 v x3 x4
def zae.setOp : zae → Int → zae
 | .mk x0 x1 x2 _ x4, v => .mk x0 x1 x2 v x4
def zae.setArgs : zae → (Sl zae) → zae
 | .mk x0 x1 x2 x3 _, v => .mk x0 x1 x2 x3 v
def zae.zero : zae := .mk 0 0 Val.zero 0 Sl.nil
mutual
def zaD : zae → List D
 | .mk x0 x1 x2 x3 x4 => ([(.int .i64 x0)]) ++ ([(.int .i64 x1)]) ++ (zbv x2) ++ ([(.int .i64 x3)]) ++ ([zh4 x4])
def zh4 : Sl zae → D
 | .mk f l => .sl f (ziY l)
def ziY : List zae → List (List D)
 | [] => []
 | x :: r => (zaD x) :: ziY r
end
theorem zoN (l : List zae) : ziY l = l.map zaD := by
 induction l with
 | nil => rfl
 | cons x r ih => rw [ziY, ih]; rfl
theorem zlX (s : Sl zae) : zh4 s = dSl zaD s := by cases s; simp only [zh4, dSl, zoN]
theorem zaJ (x : zae) : zaD x = ([(.int .i64 x.kind)]) ++ ([(.int .i64 x.column)]) ++ (zbv x.value) ++ ([(.int .i64 x.op)]) ++ ([(dSl zaD x.args)]) := by
 cases x; simp only [zaD, zlX, zae.kind, zae.column, zae.value, zae.op, zae.args]
@[go_sem] theorem zae.setKind_kind (x : zae) (v : Int) : (x.setKind v).kind = v := by cases x; rfl
@[go_sem] theorem zae.setKind_column (x : zae) (v : Int) : (x.setKind v).column = x.column := by cases x; rfl
@[go_sem] theorem zae.setKind_value (x : zae) (v : Int) : (x.setKind v).value = x.value := by cases x; rfl
@[go_sem] theorem zae.setKind_op (x : zae) (v : Int) : (x.setKind v).op = x.op := by cases x; rfl
@[go_sem] theorem zae.setKind_args (x : zae) (v : Int) : (x.setKind v).args = x.args := by cases x; rfl
@[go_sem] theorem zae.setColumn_kind (x : zae) (v : Int) : (x.setColumn v).kind = x.kind := by cases x; rfl
@[go_sem] theorem zae.setColumn_column (x : zae) (v : Int) : (x.setColumn v).column = v := by cases x; rfl
@[go_sem] theorem zae.setColumn_value (x : zae) (v : Int) : (x.setColumn v).value = x.value := by cases x; rfl
@[go_sem] theorem zae.setColumn_op (x : zae) (v : Int) : (x.setColumn v).op = x.op := by cases x; rfl
@[go_sem] theorem zae.setColumn_args (x : zae) (v : Int) : (x.setColumn v).args = x.args := by cases x; rfl
@[go_sem] theorem zae.setValue_kind (x : zae) (v : Val) : (x.setValue v).kind = x.kind := by cases x; rfl
@[go_sem] theorem zae.setValue_column (x : zae) (v : Val) : (x.setValue v).column = x.column := by cases x; rfl
@[go_sem] theorem zae.setValue_value (x : zae) (v : Val) : (x.setValue v).value = v := by cases x; rfl
@[go_sem] theorem zae.setValue_op (x : zae) (v : Val) : (x.setValue v).op = x.op := by cases x; rfl
@[go_sem] theorem zae.setValue_args (x : zae) (v : Val) : (x.setValue v).args = x.args := by cases x; rfl
@[go_sem] theorem zae.setOp_kind (x : zae) (v : Int) : (x.setOp v).kind = x.kind := by cases x; rfl
@[go_sem] theorem zae.setOp_column (x : zae) (v : Int) : (x.setOp v).column = x.column := by cases x; rfl
@[go_sem] theorem zae.setOp_value (x : zae) (v : Int) : (x.setOp v).value = x.value := by cases x; rfl
@[go_sem] theorem zae.setOp_op (x : zae) (v : Int) : (x.setOp v).op = v := by cases x; rfl
@[go_sem] theorem zae.setOp_args (x : zae) (v : Int) : (x.setOp v).args = x.args := by cases x; rfl
@[go_sem] theorem zae.setArgs_kind (x : zae) (v : (Sl zae)) : (x.setArgs v).kind = x.kind := by cases x; rfl
@[go_sem] theorem zae.setArgs_column (x : zae) (v : (Sl zae)) : (x.setArgs v).column = x.column := by cases x; rfl
@[go_sem] theorem zae.setArgs_value (x : zae) (v : (Sl zae)) : (x.setArgs v).value = x.value := by cases x; rfl
@[go_sem] theorem zae.setArgs_op (x : zae) (v : (Sl zae)) : (x.setArgs v).op = x.op := by cases x; rfl
@[go_sem] theorem zae.setArgs_args (x : zae) (v : (Sl zae)) : (x.setArgs v).args = v := by cases x; rfl
@[go_sem] theorem zgP (x : zae) : (zaD x).length = 7 := by simp [zaJ, zem]
@[go_sem] theorem zsS (x : zae) : zaG (zaD x) = true := by simp [zaJ, zaU, zaG, cell, dSl, zfS]
@[go_sem] theorem ziF (x : zae) : zau (zaD x) = true := by simp [zaJ, zaO, zau, still, dSl, zdT]
@[go_sem] theorem zuS (x : zae) : zey (zaD x) = [] := by simp [zaJ, zbr, zey, ids, dSl, zjp]
@[go_sem] theorem zuD (ρ : Nm → Option (Nm × Nat)) (x : zae) : zei ρ (zaD x) = some (zaD x) := by simp [zaJ, zbp, zei, ren, dSl, zjf]
@[go_sem] theorem ztJ (n : Nat) (x : zae) : zbg (zcf n) (zaD x) = pure (zaD x, []) := zbq (ziF x)
@[go_sem] theorem zae.zero_kind : zae.zero.kind = 0 := rfl
@[go_sem] theorem zae.zero_column : zae.zero.column = 0 := rfl
@[go_sem] theorem zae.zero_value : zae.zero.value = Val.zero := rfl
@[go_sem] theorem zae.zero_op : zae.zero.op = 0 := rfl
@[go_sem] theorem zae.zero_args : zae.zero.args = Sl.nil := rfl
@[go_sem] theorem zvQ (x : zae) : cut (zaD x) 0 7 = zaD x := zb7 (zgP x)
@[go_sem] theorem zsG (x : zae) : cut (zaD x) 0 1 = [(.int .i64 x.kind)] := by
  simp [cut, zaJ, zak]
@[go_sem] theorem zrT (x : zae) (v : Int) : put (zaD x) 0 ([(.int .i64 v)]) = zaD (x.setKind v) := by
  simp [put, zaJ, zak, zae.setKind_kind, zae.setKind_column, zae.setKind_value, zae.setKind_op, zae.setKind_args]
@[go_sem] theorem zqQ (x : zae) : cut (zaD x) 1 1 = [(.int .i64 x.column)] := by
  simp [cut, zaJ, zak]
@[go_sem] theorem zql (x : zae) (v : Int) : put (zaD x) 1 ([(.int .i64 v)]) = zaD (x.setColumn v) := by
  simp [put, zaJ, zak, zae.setColumn_kind, zae.setColumn_column, zae.setColumn_value, zae.setColumn_op, zae.setColumn_args]
@[go_sem] theorem zrn (x : zae) : cut (zaD x) 2 3 = zbv x.value := by
  simp [cut, zaJ, zak]
@[go_sem] theorem zri (x : zae) (v : Val) : put (zaD x) 2 (zbv v) = zaD (x.setValue v) := by
  simp [put, zaJ, zak, zae.setValue_kind, zae.setValue_column, zae.setValue_value, zae.setValue_op, zae.setValue_args]
@[go_sem] theorem zm5 (x : zae) : cut (zaD x) 2 1 = [(.int .i64 x.value.kind)] := by
  simp [cut, zaJ, zak]
@[go_sem] theorem zmx (x : zae) (v : Int) : put (zaD x) 2 ([(.int .i64 v)]) = zaD (x.setValue (x.value.setKind v)) := by
  simp [put, zaJ, zak, zae.setValue_kind, zae.setValue_column, zae.setValue_value, zae.setValue_op, zae.setValue_args, Val.setKind_kind, Val.setKind_int, Val.setKind_text]
@[go_sem] theorem znJ (x : zae) : cut (zaD x) 3 1 = [(.int .i64 x.value.int)] := by
  simp [cut, zaJ, zak]
@[go_sem] theorem znD (x : zae) (v : Int) : put (zaD x) 3 ([(.int .i64 v)]) = zaD (x.setValue (x.value.setInt v)) := by
  simp [put, zaJ, zak, zae.setValue_kind, zae.setValue_column, zae.setValue_value, zae.setValue_op, zae.setValue_args, Val.setInt_kind, Val.setInt_int, Val.setInt_text]
@[go_sem] theorem zm4 (x : zae) : cut (zaD x) 4 1 = [(.str x.value.text)] := by
  simp [cut, zaJ, zak]
@[go_sem] theorem zmw (x : zae) (v : Str) : put (zaD x) 4 ([(.str v)]) = zaD (x.setValue (x.value.setText v)) := by
  simp [put, zaJ, zak, zae.setValue_kind, zae.setValue_column, zae.setValue_value, zae.setValue_op, zae.setValue_args, Val.setText_kind, Val.setText_int, Val.setText_text]
@[go_sem] theorem zul (x : zae) : cut (zaD x) 5 1 = [(.int .i64 x.op)] := by
  simp [cut, zaJ, zak]
@[go_sem] theorem ztN (x : zae) (v : Int) : put (zaD x) 5 ([(.int .i64 v)]) = zaD (x.setOp v) := by
  simp [put, zaJ, zak, zae.setOp_kind, zae.setOp_column, zae.setOp_value, zae.setOp_op, zae.setOp_args]
@[go_sem] theorem zsH (x : zae) : cut (zaD x) 6 1 = [(dSl zaD x.args)] := by
  simp [cut, zaJ, zak]
@[go_sem] theorem zrU (x : zae) (v : (Sl zae)) : put (zaD x) 6 ([(dSl zaD v)]) = zaD (x.setArgs v) := by
  simp [put, zaJ, zak, zae.setArgs_kind, zae.setArgs_column, zae.setArgs_value, zae.setArgs_op, zae.setArgs_args]
@[go_sem] theorem zrS (x : zae) (b : Nm) (g o l : Nat) : put (zaD x) 6 [.own b g o l] = [(.int .i64 x.kind), (.int .i64 x.column), (.int .i64 x.value.kind), (.int .i64 x.value.int), (.str x.value.text), (.int .i64 x.op), .own b g o l] := by
  simp [put, zaJ, zak]
@[go_sem] theorem zs7 (x y : zae) : put (zaD x) 0 (zaD y) = zaD y := zbW (zgP x) (zgP y)
structure zap where
 at_ : Int
 data : (Sl Int)
def zap.setAt_ : zap → Int → zap
 | .mk _ x1, v => .mk v x1
def zap.setData : zap → (Sl Int) → zap
 | .mk x0 _, v => .mk x0 v
def zap.zero : zap := .mk 0 Sl.nil
def zax (x : zap) : List D := ([(.int .i64 x.at_)]) ++ ([(dSl (cI .u8) x.data)])
theorem zaT (x : zap) : zax x = ([(.int .i64 x.at_)]) ++ ([(dSl (cI .u8) x.data)]) := rfl
@[go_sem] theorem zap.setAt__at_ (x : zap) (v : Int) : (x.setAt_ v).at_ = v := by cases x; rfl
@[go_sem] theorem zap.setAt__data (x : zap) (v : Int) : (x.setAt_ v).data = x.data := by cases x; rfl
@[go_sem] theorem zap.setData_at_ (x : zap) (v : (Sl Int)) : (x.setData v).at_ = x.at_ := by cases x; rfl
@[go_sem] theorem zap.setData_data (x : zap) (v : (Sl Int)) : (x.setData v).data = v := by cases x; rfl
@[go_sem] theorem zd9 (x : zap) : (zax x).length = 2 := by simp [zaT]
@[go_sem] theorem zoV (x : zap) : zaG (zax x) = true := by simp [zaT, zaU, zaG, cell, dSl]
@[go_sem] theorem zgs (x : zap) : zau (zax x) = true := by simp [zaT, zaO, zau, still, dSl]
@[go_sem] theorem zrk (x : zap) : zey (zax x) = [] := by simp [zaT, zbr, zey, ids, dSl]
@[go_sem] theorem zrc (ρ : Nm → Option (Nm × Nat)) (x : zap) : zei ρ (zax x) = some (zax x) := by simp [zaT, zbp, zei, ren, dSl]
@[go_sem] theorem zqg (n : Nat) (x : zap) : zbg (zcf n) (zax x) = pure (zax x, []) := zbq (zgs x)
@[go_sem] theorem zap.zero_at_ : zap.zero.at_ = 0 := rfl
@[go_sem] theorem zap.zero_data : zap.zero.data = Sl.nil := rfl
@[go_sem] theorem zsF (x : zap) : cut (zax x) 0 2 = zax x := zb7 (zd9 x)
@[go_sem] theorem zpO (x : zap) : cut (zax x) 0 1 = [(.int .i64 x.at_)] := by
  simp [cut, zaT]
@[go_sem] theorem zpd (x : zap) (v : Int) : put (zax x) 0 ([(.int .i64 v)]) = zax (x.setAt_ v) := by
  simp [put, zaT, zap.setAt__at_, zap.setAt__data]
@[go_sem] theorem zoF (x : zap) : cut (zax x) 1 1 = [(dSl (cI .u8) x.data)] := by
  simp [cut, zaT]
@[go_sem] theorem zob (x : zap) (v : (Sl Int)) : put (zax x) 1 ([(dSl (cI .u8) v)]) = zax (x.setData v) := by
  simp [put, zaT, zap.setData_at_, zap.setData_data]
@[go_sem] theorem zoa (x : zap) (b : Nm) (g o l : Nat) : put (zax x) 1 [.own b g o l] = [(.int .i64 x.at_), .own b g o l] := by
  simp [put, zaT]
@[go_sem] theorem zpe (x y : zap) : put (zax x) 0 (zax y) = zax y := zbW (zd9 x) (zd9 y)
structure zad where
 durable : (Sl Int)
 pending : (Sl zap)
 counter : Int
 failed : Bool
def zad.setDurable : zad → (Sl Int) → zad
 | .mk _ x1 x2 x3, v => .mk v x1 x2 x3
def zad.setPending : zad → (Sl zap) → zad
 | .mk x0 _ x2 x3, v => .mk x0 v x2 x3
def zad.setCounter : zad → Int → zad
 | .mk x0 x1 _ x3, v => .mk x0 x1 v x3
def zad.setFailed : zad → Bool → zad
 | .mk x0 x1 x2 _, v => .mk x0 x1 x2 v
def zad.zero : zad := .mk Sl.nil Sl.nil 0 false
def zaz (x : zad) : List D := ([(dSl (cI .u8) x.durable)]) ++ ([(dSl zax x.pending)]) ++ ([(.int .i64 x.counter)]) ++ ([(.bool x.failed)])
theorem zaI (x : zad) : zaz x = ([(dSl (cI .u8) x.durable)]) ++ ([(dSl zax x.pending)]) ++ ([(.int .i64 x.counter)]) ++ ([(.bool x.failed)]) := rfl
@[go_sem] theorem zad.setDurable_durable (x : zad) (v : (Sl Int)) : (x.setDurable v).durable = v := by cases x; rfl
@[go_sem] theorem zad.setDurable_pending (x : zad) (v : (Sl Int)) : (x.setDurable v).pending = x.pending := by cases x; rfl
@[go_sem] theorem zad.setDurable_counter (x : zad) (v : (Sl Int)) : (x.setDurable v).counter = x.counter := by cases x; rfl
@[go_sem] theorem zad.setDurable_failed (x : zad) (v : (Sl Int)) : (x.setDurable v).failed = x.failed := by cases x; rfl
@[go_sem] theorem zad.setPending_durable (x : zad) (v : (Sl zap)) : (x.setPending v).durable = x.durable := by cases x; rfl
@[go_sem] theorem zad.setPending_pending (x : zad) (v : (Sl zap)) : (x.setPending v).pending = v := by cases x; rfl
@[go_sem] theorem zad.setPending_counter (x : zad) (v : (Sl zap)) : (x.setPending v).counter = x.counter := by cases x; rfl
@[go_sem] theorem zad.setPending_failed (x : zad) (v : (Sl zap)) : (x.setPending v).failed = x.failed := by cases x; rfl
@[go_sem] theorem zad.setCounter_durable (x : zad) (v : Int) : (x.setCounter v).durable = x.durable := by cases x; rfl
@[go_sem] theorem zad.setCounter_pending (x : zad) (v : Int) : (x.setCounter v).pending = x.pending := by cases x; rfl
@[go_sem] theorem zad.setCounter_counter (x : zad) (v : Int) : (x.setCounter v).counter = v := by cases x; rfl
@[go_sem] theorem zad.setCounter_failed (x : zad) (v : Int) : (x.setCounter v).failed = x.failed := by cases x; rfl
@[go_sem] theorem zad.setFailed_durable (x : zad) (v : Bool) : (x.setFailed v).durable = x.durable := by cases x; rfl
@[go_sem] theorem zad.setFailed_pending (x : zad) (v : Bool) : (x.setFailed v).pending = x.pending := by cases x; rfl
@[go_sem] theorem zad.setFailed_counter (x : zad) (v : Bool) : (x.setFailed v).counter = x.counter := by cases x; rfl
@[go_sem] theorem zad.setFailed_failed (x : zad) (v : Bool) : (x.setFailed v).failed = v := by cases x; rfl
@[go_sem] theorem zex (x : zad) : (zaz x).length = 4 := by simp [zaI]
@[go_sem] theorem zp0 (x : zad) : zaG (zaz x) = true := by simp [zaI, zaU, zaG, cell, dSl]
@[go_sem] theorem zgV (x : zad) : zau (zaz x) = true := by simp [zaI, zaO, zau, still, dSl]
@[go_sem] theorem zsi (x : zad) : zey (zaz x) = [] := by simp [zaI, zbr, zey, ids, dSl]
@[go_sem] theorem zrL (ρ : Nm → Option (Nm × Nat)) (x : zad) : zei ρ (zaz x) = some (zaz x) := by simp [zaI, zbp, zei, ren, dSl]
@[go_sem] theorem zre (n : Nat) (x : zad) : zbg (zcf n) (zaz x) = pure (zaz x, []) := zbq (zgV x)
@[go_sem] theorem zad.zero_durable : zad.zero.durable = Sl.nil := rfl
@[go_sem] theorem zad.zero_pending : zad.zero.pending = Sl.nil := rfl
@[go_sem] theorem zad.zero_counter : zad.zero.counter = 0 := rfl
@[go_sem] theorem zad.zero_failed : zad.zero.failed = false := rfl
@[go_sem] theorem zti (x : zad) : cut (zaz x) 0 4 = zaz x := zb7 (zex x)
@[go_sem] theorem zm9 (x : zad) : cut (zaz x) 0 1 = [(dSl (cI .u8) x.durable)] := by
  simp [cut, zaI]
@[go_sem] theorem zmB (x : zad) (v : (Sl Int)) : put (zaz x) 0 ([(dSl (cI .u8) v)]) = zaz (x.setDurable v) := by
  simp [put, zaI, zad.setDurable_durable, zad.setDurable_pending, zad.setDurable_counter, zad.setDurable_failed]
@[go_sem] theorem zm8 (x : zad) : cut (zaz x) 1 1 = [(dSl zax x.pending)] := by
  simp [cut, zaI]
@[go_sem] theorem zmA (x : zad) (v : (Sl zap)) : put (zaz x) 1 ([(dSl zax v)]) = zaz (x.setPending v) := by
  simp [put, zaI, zad.setPending_durable, zad.setPending_pending, zad.setPending_counter, zad.setPending_failed]
@[go_sem] theorem zna (x : zad) : cut (zaz x) 2 1 = [(.int .i64 x.counter)] := by
  simp [cut, zaI]
@[go_sem] theorem zmC (x : zad) (v : Int) : put (zaz x) 2 ([(.int .i64 v)]) = zaz (x.setCounter v) := by
  simp [put, zaI, zad.setCounter_durable, zad.setCounter_pending, zad.setCounter_counter, zad.setCounter_failed]
@[go_sem] theorem znN (x : zad) : cut (zaz x) 3 1 = [(.bool x.failed)] := by
  simp [cut, zaI]
@[go_sem] theorem znH (x : zad) (v : Bool) : put (zaz x) 3 ([(.bool v)]) = zaz (x.setFailed v) := by
  simp [put, zaI, zad.setFailed_durable, zad.setFailed_pending, zad.setFailed_counter, zad.setFailed_failed]
@[go_sem] theorem zpg (x : zad) (b : Nm) (g o l : Nat) : put (zaz x) 0 [.own b g o l] = [.own b g o l, (dSl zax x.pending), (.int .i64 x.counter), (.bool x.failed)] := by
  simp [put, zaI]
@[go_sem] theorem zpf (x : zad) (b : Nm) (g o l : Nat) : put (zaz x) 1 [.own b g o l] = [(dSl (cI .u8) x.durable), .own b g o l, (.int .i64 x.counter), (.bool x.failed)] := by
  simp [put, zaI]
@[go_sem] theorem zqm (x y : zad) : put (zaz x) 0 (zaz y) = zaz y := zbW (zex x) (zex y)
structure zam where
 at_ : Int
 length : Int
 rows : Int
def zam.setAt_ : zam → Int → zam
 | .mk _ x1 x2, v => .mk v x1 x2
def zam.setLength : zam → Int → zam
 | .mk x0 _ x2, v => .mk x0 v x2
def zam.setRows : zam → Int → zam
 | .mk x0 x1 _, v => .mk x0 x1 v
def zam.zero : zam := .mk 0 0 0
def zaC (x : zam) : List D := ([(.int .i64 x.at_)]) ++ ([(.int .i64 x.length)]) ++ ([(.int .i64 x.rows)])
theorem zaV (x : zam) : zaC x = ([(.int .i64 x.at_)]) ++ ([(.int .i64 x.length)]) ++ ([(.int .i64 x.rows)]) := rfl
@[go_sem] theorem zam.setAt__at_ (x : zam) (v : Int) : (x.setAt_ v).at_ = v := by cases x; rfl
@[go_sem] theorem zam.setAt__length (x : zam) (v : Int) : (x.setAt_ v).length = x.length := by cases x; rfl
@[go_sem] theorem zam.setAt__rows (x : zam) (v : Int) : (x.setAt_ v).rows = x.rows := by cases x; rfl
@[go_sem] theorem zam.setLength_at_ (x : zam) (v : Int) : (x.setLength v).at_ = x.at_ := by cases x; rfl
@[go_sem] theorem zam.setLength_length (x : zam) (v : Int) : (x.setLength v).length = v := by cases x; rfl
@[go_sem] theorem zam.setLength_rows (x : zam) (v : Int) : (x.setLength v).rows = x.rows := by cases x; rfl
@[go_sem] theorem zam.setRows_at_ (x : zam) (v : Int) : (x.setRows v).at_ = x.at_ := by cases x; rfl
@[go_sem] theorem zam.setRows_length (x : zam) (v : Int) : (x.setRows v).length = x.length := by cases x; rfl
@[go_sem] theorem zam.setRows_rows (x : zam) (v : Int) : (x.setRows v).rows = v := by cases x; rfl
@[go_sem] theorem zew (x : zam) : (zaC x).length = 3 := by simp [zaV]
@[go_sem] theorem zpZ (x : zam) : zaG (zaC x) = true := by simp [zaV, zaU, zaG, cell, dSl]
@[go_sem] theorem zgU (x : zam) : zau (zaC x) = true := by simp [zaV, zaO, zau, still, dSl]
@[go_sem] theorem zsh (x : zam) : zey (zaC x) = [] := by simp [zaV, zbr, zey, ids, dSl]
@[go_sem] theorem zrK (ρ : Nm → Option (Nm × Nat)) (x : zam) : zei ρ (zaC x) = some (zaC x) := by simp [zaV, zbp, zei, ren, dSl]
@[go_sem] theorem zrd (n : Nat) (x : zam) : zbg (zcf n) (zaC x) = pure (zaC x, []) := zbq (zgU x)
@[go_sem] theorem zam.zero_at_ : zam.zero.at_ = 0 := rfl
@[go_sem] theorem zam.zero_length : zam.zero.length = 0 := rfl
@[go_sem] theorem zam.zero_rows : zam.zero.rows = 0 := rfl
@[go_sem] theorem zsC (P : Program) (x y : zam) (k : List (TypeId × Nat)) : zb2 P k (zaC x) (zaC y) = zb2 P k [(.int .i64 x.at_), (.int .i64 x.length), (.int .i64 x.rows)] [(.int .i64 y.at_), (.int .i64 y.length), (.int .i64 y.rows)] := rfl
@[go_sem] theorem zth (x : zam) : cut (zaC x) 0 3 = zaC x := zb7 (zew x)
@[go_sem] theorem zqP (x : zam) : cut (zaC x) 0 1 = [(.int .i64 x.at_)] := by
  simp [cut, zaV]
@[go_sem] theorem zqj (x : zam) (v : Int) : put (zaC x) 0 ([(.int .i64 v)]) = zaC (x.setAt_ v) := by
  simp [put, zaV, zam.setAt__at_, zam.setAt__length, zam.setAt__rows]
@[go_sem] theorem znI (x : zam) : cut (zaC x) 1 1 = [(.int .i64 x.length)] := by
  simp [cut, zaV]
@[go_sem] theorem znC (x : zam) (v : Int) : put (zaC x) 1 ([(.int .i64 v)]) = zaC (x.setLength v) := by
  simp [put, zaV, zam.setLength_at_, zam.setLength_length, zam.setLength_rows]
@[go_sem] theorem zpM (x : zam) : cut (zaC x) 2 1 = [(.int .i64 x.rows)] := by
  simp [cut, zaV]
@[go_sem] theorem zpb (x : zam) (v : Int) : put (zaC x) 2 ([(.int .i64 v)]) = zaC (x.setRows v) := by
  simp [put, zaV, zam.setRows_at_, zam.setRows_length, zam.setRows_rows]
@[go_sem] theorem zqk (x y : zam) : put (zaC x) 0 (zaC y) = zaC y := zbW (zew x) (zew y)
structure zaq where
 rest : Str
def zaq.setRest : zaq → Str → zaq
 | .mk _, v => .mk v
def zaq.zero : zaq := .mk []
def zav (x : zaq) : List D := ([(.str x.rest)])
theorem zaM (x : zaq) : zav x = ([(.str x.rest)]) := rfl
@[go_sem] theorem zaq.setRest_rest (x : zaq) (v : Str) : (x.setRest v).rest = v := by cases x; rfl
@[go_sem] theorem zcg (x : zaq) : (zav x).length = 1 := by simp [zaM]
@[go_sem] theorem zj5 (x : zaq) : zaG (zav x) = true := by simp [zaM, zaU, zaG, cell, dSl]
@[go_sem] theorem zef (x : zaq) : zau (zav x) = true := by simp [zaM, zaO, zau, still, dSl]
@[go_sem] theorem zlw (x : zaq) : zey (zav x) = [] := by simp [zaM, zbr, zey, ids, dSl]
@[go_sem] theorem zlf (ρ : Nm → Option (Nm × Nat)) (x : zaq) : zei ρ (zav x) = some (zav x) := by simp [zaM, zbp, zei, ren, dSl]
@[go_sem] theorem zkE (n : Nat) (x : zaq) : zbg (zcf n) (zav x) = pure (zav x, []) := zbq (zef x)
@[go_sem] theorem zaq.zero_rest : zaq.zero.rest = [] := rfl
@[go_sem] theorem zlN (P : Program) (x y : zaq) (k : List (TypeId × Nat)) : zb2 P k (zav x) (zav y) = zb2 P k [(.str x.rest)] [(.str y.rest)] := rfl
@[go_sem] theorem zmj (x : zaq) : cut (zav x) 0 1 = zav x := zb7 (zcg x)
@[go_sem] theorem zlr (x : zaq) : only (zav x) = some (.str x.rest) := rfl
@[go_sem] theorem zj2 (x : zaq) (v : Str) : put (zav x) 0 ([(.str v)]) = zav (x.setRest v) := by
  simp [put, zaM, zaq.setRest_rest]
@[go_sem] theorem zka (x y : zaq) : put (zav x) 0 (zav y) = zav y := zbW (zcg x) (zcg y)
theorem zcG : type_of% (And.intro zak (And.intro zaj (And.intro zcu (And.intro zaw (And.intro zas (And.intro zaH (And.intro zcv (And.intro zaJ (And.intro zaT (And.intro zaI (And.intro zaV (zaM)))))))))))) := And.intro zak (And.intro zaj (And.intro zcu (And.intro zaw (And.intro zas (And.intro zaH (And.intro zcv (And.intro zaJ (And.intro zaT (And.intro zaI (And.intro zaV (zaM)))))))))))
end Go.Ev
namespace Go.Ev
def zcX (a b : Int) : Int := if a < b then -1 else if b < a then 1 else 0
def orI (a b : Int) : Int := if a = 0 then b else a
def zjF {α : Type} (f : α → α → Int) : List α → List α → Int
 | [], [] => 0
 | [], _ :: _ => -1
 | _ :: _, [] => 1
 | x :: xs, y :: ys => orI (f x y) (zjF f xs ys)
def zur : Str → Str → Int := fun a b => if zbw a b then -1 else if zbw b a then 1 else 0
def ziq (a b : zaR) : Int := orI (zcX a.table b.table) (zcX a.seq b.seq)
def zco (a b : Val) : Int := orI (zcX a.kind b.kind) (orI (zcX a.int b.int) (zur a.text b.text))
mutual
def zh0 : zaE → zaE → Int
 | .mk c ⟨_, fs⟩, y => orI (zcY fs y.factors.l) (zcX c y.coeff)
def zcY : List zaf → List zaf → Int
 | [], [] => 0
 | [], _ :: _ => -1
 | _ :: _, [] => 1
 | x :: xs, y :: ys => orI (zeO x y) (zcY xs ys)
def zeO : zaf → zaf → Int
 | .mk a e, y => orI (zed a y.atom) (zcX e y.exp)
def zed : zah → zah → Int
 | .mk k r ⟨_, as⟩ f ⟨_, is⟩ o b, y => orI (zcX k y.kind) (orI (ziq r y.row) (orI (zh2 as y.args.l) (orI (zcX f y.func) (orI (zeq is y.items.l) (orI (zcX o y.op) (zco b y.bound))))))
def zh2 : List (Sl zaE) → List (Sl zaE) → Int
 | [], [] => 0
 | [], _ :: _ => -1
 | _ :: _, [] => 1
 | ⟨_, x⟩ :: xs, y :: ys => orI (zfk x y.l) (zh2 xs ys)
def zfk : List zaE → List zaE → Int
 | [], [] => 0
 | [], _ :: _ => -1
 | _ :: _, [] => 1
 | x :: xs, y :: ys => orI (zh0 x y) (zfk xs ys)
def zeq : List zac → List zac → Int
 | [], [] => 0
 | [], _ :: _ => -1
 | _ :: _, [] => 1
 | x :: xs, y :: ys => orI (zh1 x y) (zeq xs ys)
def zh1 : zac → zac → Int
 | .mk v ⟨_, l⟩, y => orI (zco v y.value) (zfk l y.ann.l)
end
def zcA (a b : Sl zaE) : Int := zfk a.l b.l
theorem zlV (a b : List zaf) : zcY a b = zjF zeO a b := by
 induction a generalizing b with
 | nil => cases b <;> simp [zcY, zjF]
 | cons x a ih => cases b <;> simp [zcY, zjF, ih]
theorem zqV (a b : List (Sl zaE)) : zh2 a b = zjF zcA a b := by
 induction a generalizing b with
 | nil => cases b <;> simp [zh2, zjF]
 | cons x a ih => cases b <;> cases x <;> simp [zh2, zjF, ih, zcA]
theorem zoI (a b : List zaE) : zfk a b = zjF zh0 a b := by
 induction a generalizing b with
 | nil => cases b <;> simp [zfk, zjF]
 | cons x a ih => cases b <;> simp [zfk, zjF, ih]
theorem zoK (a b : List zac) : zeq a b = zjF zh1 a b := by
 induction a generalizing b with
 | nil => cases b <;> simp [zeq, zjF]
 | cons x a ih => cases b <;> simp [zeq, zjF, ih]
theorem zqS (x y : zaE) : zh0 x y = orI (zcY x.factors.l y.factors.l) (zcX x.coeff y.coeff) := by rcases x with ⟨c, ⟨f, l⟩⟩; simp only [zh0, zaE.coeff, zaE.factors]
theorem znc (x y : zaf) : zeO x y = orI (zed x.atom y.atom) (zcX x.exp y.exp) := by cases x; simp only [zeO, zaf.atom, zaf.exp]
theorem zqT (x y : zac) : zh1 x y = orI (zco x.value y.value) (zcA x.ann y.ann) := by rcases x with ⟨v, ⟨f, l⟩⟩; simp only [zh1, zcA, zac.value, zac.ann]
theorem zqU (x y : zah) : zed x y = orI (zcX x.kind y.kind) (orI (ziq x.row y.row) (orI (zh2 x.args.l y.args.l) (orI (zcX x.func y.func) (orI (zeq x.items.l y.items.l) (orI (zcX x.op y.op) (zco x.bound y.bound)))))) := by
 rcases x with ⟨k, r, ⟨f, a⟩, fn, ⟨g, i⟩, o, b⟩; simp only [zed, zah.kind, zah.row, zah.args, zah.func, zah.items, zah.op, zah.bound]
mutual
def zfD : zaE → Nat
 | .mk _ ⟨_, fs⟩ => zaW fs + 1
def zaW : List zaf → Nat
 | [] => 0
 | x :: xs => zdN x + zaW xs + 1
def zdN : zaf → Nat
 | .mk a _ => zd4 a + 1
def zd4 : zah → Nat
 | .mk _ _ ⟨_, as⟩ _ ⟨_, is⟩ _ b => zcE as + zbR is + b.text.length + 1
def zcE : List (Sl zaE) → Nat
 | [] => 0
 | ⟨_, x⟩ :: xs => zat x + zcE xs + 1
def zat : List zaE → Nat
 | [] => 0
 | x :: xs => zfD x + zat xs + 1
def zbR : List zac → Nat
 | [] => 0
 | x :: xs => zg6 x + zbR xs + 1
def zg6 : zac → Nat
 | .mk v ⟨_, l⟩ => zat l + v.text.length + 1
end
theorem zg5 (x : zaE) : zfD x = zaW x.factors.l + 1 := by rcases x with ⟨c, ⟨f, l⟩⟩; simp only [zfD, zaE.factors]
theorem zgL (x : zaf) : zdN x = zd4 x.atom + 1 := by cases x; simp only [zdN, zaf.atom]
theorem zi7 (x : zac) : zg6 x = zat x.ann.l + x.value.text.length + 1 := by rcases x with ⟨v, ⟨f, l⟩⟩; simp only [zg6, zac.value, zac.ann]
theorem zg7 (x : zah) : zd4 x = zcE x.args.l + zbR x.items.l + x.bound.text.length + 1 := by
 rcases x with ⟨k, r, ⟨f, a⟩, fn, ⟨g, i⟩, o, b⟩; simp only [zd4, zah.args, zah.items, zah.bound]
theorem zeZ {l : List zaf} {i : Nat} {x : zaf} (h : l[i]? = some x) : zdN x < zaW l := by
 induction l generalizing i with
 | nil => simp at h
 | cons y l ih => cases i with
   | zero => simp at h; subst h; simp [zaW]; omega
   | succ i => have := ih (by simpa using h); simp [zaW]; omega
theorem zgJ {l : List zaE} {i : Nat} {x : zaE} (h : l[i]? = some x) : zfD x < zat l := by
 induction l generalizing i with
 | nil => simp at h
 | cons y l ih => cases i with
   | zero => simp at h; subst h; simp [zat]; omega
   | succ i => have := ih (by simpa using h); simp [zat]; omega
theorem zgK {l : List zac} {i : Nat} {x : zac} (h : l[i]? = some x) : zg6 x < zbR l := by
 induction l generalizing i with
 | nil => simp at h
 | cons y l ih => cases i with
   | zero => simp at h; subst h; simp [zbR]; omega
   | succ i => have := ih (by simpa using h); simp [zbR]; omega
theorem zf4 {l : List (Sl zaE)} {i : Nat} {x : Sl zaE} (h : l[i]? = some x) : zat x.l < zcE l := by
 induction l generalizing i with
 | nil => simp at h
 | cons y l ih => cases i with
   | zero => simp at h; subst h; cases y; simp [zcE]; omega
   | succ i => have := ih (by simpa using h); cases y; simp [zcE]; omega
theorem zdM (l : List zaf) : l.length ≤ zaW l := by
 induction l with
 | nil => simp
 | cons y l ih => simp [zaW]; omega
theorem zi6 (l : List zaE) : l.length ≤ zat l := by
 induction l with
 | nil => simp
 | cons y l ih => simp [zat]; omega
theorem zeY (l : List zac) : l.length ≤ zbR l := by
 induction l with
 | nil => simp
 | cons y l ih => simp [zbR]; omega
theorem zd0 (l : List (Sl zaE)) : l.length ≤ zcE l := by
 induction l with
 | nil => simp
 | cons y l ih => cases y; simp [zcE]; omega
def zgC (n : Int) : Prop := -9223372036854775808 ≤ n ∧ n ≤ 9223372036854775807
def zvb (r : zaR) : Prop := zgC r.table ∧ zgC r.seq
def zp3 (v : Val) : Prop := zgC v.kind ∧ zgC v.int
mutual
def zmm : zaE → Prop
 | .mk c ⟨_, fs⟩ => zgC c ∧ zd3 fs
def zd3 : List zaf → Prop
 | [] => True
 | x :: xs => zg2 x ∧ zd3 xs
def zg2 : zaf → Prop
 | .mk a e => zmo a ∧ zgC e
def zmo : zah → Prop
 | .mk k r ⟨_, as⟩ f ⟨_, is⟩ o b => zgC k ∧ zvb r ∧ zi3 as ∧ zgC f ∧ zgH is ∧ zgC o ∧ zp3 b
def zi3 : List (Sl zaE) → Prop
 | [] => True
 | ⟨_, x⟩ :: xs => zeV x ∧ zi3 xs
def zeV : List zaE → Prop
 | [] => True
 | x :: xs => zmm x ∧ zeV xs
def zgH : List zac → Prop
 | [] => True
 | x :: xs => zmn x ∧ zgH xs
def zmn : zac → Prop
 | .mk v ⟨_, l⟩ => zp3 v ∧ zeV l
end
theorem zrq (x : zaE) : zmm x ↔ zgC x.coeff ∧ zd3 x.factors.l := by rcases x with ⟨c, ⟨f, l⟩⟩; simp only [zmm, zaE.coeff, zaE.factors]
theorem znQ (x : zaf) : zg2 x ↔ zmo x.atom ∧ zgC x.exp := by cases x; simp only [zg2, zaf.atom, zaf.exp]
theorem zrr (x : zac) : zmn x ↔ zp3 x.value ∧ zeV x.ann.l := by rcases x with ⟨v, ⟨f, l⟩⟩; simp only [zmn, zac.value, zac.ann]
theorem zrs (x : zah) : zmo x ↔ zgC x.kind ∧ zvb x.row ∧ zi3 x.args.l ∧ zgC x.func ∧ zgH x.items.l ∧ zgC x.op ∧ zp3 x.bound := by
 rcases x with ⟨k, r, ⟨f, a⟩, fn, ⟨g, i⟩, o, b⟩; simp only [zmo, zah.kind, zah.row, zah.args, zah.func, zah.items, zah.op, zah.bound]
theorem znO (l : List zaE) : zeV l ↔ ∀ x ∈ l, zmm x := by
 induction l with
 | nil => simp [zeV]
 | cons x l ih => simp [zeV, ih]
theorem zk3 (l : List zaf) : zd3 l ↔ ∀ x ∈ l, zg2 x := by
 induction l with
 | nil => simp [zd3]
 | cons x l ih => simp [zd3, ih]
theorem znP (l : List zac) : zgH l ↔ ∀ x ∈ l, zmn x := by
 induction l with
 | nil => simp [zgH]
 | cons x l ih => simp [zgH, ih]
theorem zp4 (l : List (Sl zaE)) : zi3 l ↔ ∀ x ∈ l, zeV x.l := by
 induction l with
 | nil => simp [zi3]
 | cons x l ih => cases x; simp [zi3, ih]
def zgq {α : Type} (f : α → Nat) : List α → Nat
 | [] => 0
 | x :: l => f x + zgq f l
theorem znY (l : List zaE) : zat l = zgq (fun x => zfD x + 1) l := by
 induction l with
 | nil => rfl
 | cons x l ih => simp only [zat, zgq, ih]; omega
theorem zk9 (l : List zaf) : zaW l = zgq (fun x => zdN x + 1) l := by
 induction l with
 | nil => rfl
 | cons x l ih => simp only [zaW, zgq, ih]; omega
theorem znZ (l : List zac) : zbR l = zgq (fun x => zg6 x + 1) l := by
 induction l with
 | nil => rfl
 | cons x l ih => simp only [zbR, zgq, ih]; omega
theorem zp9 (l : List (Sl zaE)) : zcE l = zgq (fun x => zat x.l + 1) l := by
 induction l with
 | nil => rfl
 | cons x l ih => cases x; simp only [zcE, zgq, ih]; omega
end Go.Ev
set_option linter.unusedVariables false
namespace Go.Ev
def sgn (b : Bool) : Int := if b then -1 else 1
def zcp (a b : Sl zaf) : Int := zcY a.l b.l
def zeN (a b : Sl zac) : Int := zeq a.l b.l
noncomputable def zeu (kk : Nat) (a : Int) (b : Int) : Option (Int) :=
 sel (
  some (-1)) (
  sel (
   some 1) (
   some 0) (decide (b < a))) (decide (a < b))
noncomputable def zig (kk : Nat) (a : Bool) : Option (Int) :=
 sel (
  some (-1)) (
  some 1) (a)
noncomputable def zcK (kk : Nat) (a : zaR) (b : zaR) : Option (Int) :=
 sel (
  some (zcX a.table b.table)) (
  some (zcX a.seq b.seq)) ((zcX a.table b.table) != 0)
noncomputable def zdZ (kk : Nat) (a : Val) (b : Val) : Option (Int) :=
 sel (
  some (sgn (decide (a.kind < b.kind)))) (
  sel (
   some (sgn (decide (a.int < b.int)))) (
   sel (
    some (sgn (zbw a.text b.text))) (
    some 0) (!(a.text == b.text))) (a.int != b.int)) (a.kind != b.kind)
noncomputable def za2 (c2 : zah) (c3 : zah) (sz : Nat) (kk : Nat) : Nat → Int → Option (Out (Int) (Int))
 | 0, _ => none
 | k + 1, s1 =>
   sel (
    bnd (ix c2.args.l s1) fun (y4 : (Sl zaE)) =>
    bnd (ix c3.args.l s1) fun (y5 : (Sl zaE)) =>
    bnd (okP (zat y4.l + zat y5.l < sz)) fun _ =>
    sel (
     some (.ret (zcA y4 y5))) (
     za2 c2 c3 sz kk k (IntKind.wrap .i64 (s1 + 1))) ((zcA y4 y5) != 0)) (
    some (.done s1)) ((decide (s1 < (c2.args.l.length : Int))) && (decide (s1 < (c3.args.l.length : Int))))
noncomputable def zcx (kk : Nat) (sz : Nat) (a : zah) (b : zah) : Option (Int) :=
 sel (
  some (zcX a.kind b.kind)) (
  sel (
   some (ziq a.row b.row)) (
   ziA (za2 a b sz kk kk 0) (fun r => some r) fun (q7 : Int) =>
    sel (
     some (zcX (a.args.l.length : Int) (b.args.l.length : Int))) (
     sel (
      some (zcX a.func b.func)) (
      bnd (okP (zbR a.items.l + zbR b.items.l < sz)) fun _ =>
      sel (
       some (zeN a.items b.items)) (
       sel (
        some (zcX a.op b.op)) (
        some (zco a.bound b.bound)) ((zcX a.op b.op) != 0)) ((zeN a.items b.items) != 0)) ((zcX a.func b.func) != 0)) ((zcX (a.args.l.length : Int) (b.args.l.length : Int)) != 0)) ((ziq a.row b.row) != 0)) ((zcX a.kind b.kind) != 0)
noncomputable def zbJ (c1 : Sl zaf) (c2 : Sl zaf) (sz : Nat) (kk : Nat) : Nat → Int → Option (Out (Int) (Int))
 | 0, _ => none
 | k + 1, s3 =>
   sel (
    bnd (ix c1.l s3) fun (y4 : zaf) =>
    bnd (ix c2.l s3) fun (y5 : zaf) =>
    bnd (okP (zd4 y4.atom + zd4 y5.atom < sz)) fun _ =>
    sel (
     some (.ret (zed y4.atom y5.atom))) (
     sel (
      some (.ret (zcX y4.exp y5.exp))) (
      zbJ c1 c2 sz kk k (IntKind.wrap .i64 (s3 + 1))) ((zcX y4.exp y5.exp) != 0)) ((zed y4.atom y5.atom) != 0)) (
    some (.done s3)) ((decide (s3 < (c1.l.length : Int))) && (decide (s3 < (c2.l.length : Int))))
noncomputable def zbV (kk : Nat) (sz : Nat) (a : (Sl zaf)) (b : (Sl zaf)) : Option (Int) :=
 ziA (zbJ a b sz kk kk 0) (fun r => some r) fun (q7 : Int) =>
  some (zcX (a.l.length : Int) (b.l.length : Int))
noncomputable def zbU (c1 : Sl zac) (c2 : Sl zac) (sz : Nat) (kk : Nat) : Nat → Int → Option (Out (Int) (Int))
 | 0, _ => none
 | k + 1, s3 =>
   sel (
    bnd (ix c1.l s3) fun (y4 : zac) =>
    bnd (ix c2.l s3) fun (y5 : zac) =>
    sel (
     some (.ret (zco y4.value y5.value))) (
     bnd (okP (zat y4.ann.l + zat y5.ann.l < sz)) fun _ =>
     sel (
      some (.ret (zcA y4.ann y5.ann))) (
      zbU c1 c2 sz kk k (IntKind.wrap .i64 (s3 + 1))) ((zcA y4.ann y5.ann) != 0)) ((zco y4.value y5.value) != 0)) (
    some (.done s3)) ((decide (s3 < (c1.l.length : Int))) && (decide (s3 < (c2.l.length : Int))))
noncomputable def zch (kk : Nat) (sz : Nat) (a : (Sl zac)) (b : (Sl zac)) : Option (Int) :=
 ziA (zbU a b sz kk kk 0) (fun r => some r) fun (q7 : Int) =>
  some (zcX (a.l.length : Int) (b.l.length : Int))
noncomputable def zdi (c1 : Sl zaE) (c2 : Sl zaE) (sz : Nat) (kk : Nat) : Nat → Int → Option (Out (Int) (Int))
 | 0, _ => none
 | k + 1, s3 =>
   sel (
    bnd (ix c1.l s3) fun (y4 : zaE) =>
    bnd (ix c2.l s3) fun (y5 : zaE) =>
    bnd (okP (zaW y4.factors.l + zaW y5.factors.l < sz)) fun _ =>
    sel (
     some (.ret (zcp y4.factors y5.factors))) (
     sel (
      some (.ret (zcX y4.coeff y5.coeff))) (
      zdi c1 c2 sz kk k (IntKind.wrap .i64 (s3 + 1))) ((zcX y4.coeff y5.coeff) != 0)) ((zcp y4.factors y5.factors) != 0)) (
    some (.done s3)) ((decide (s3 < (c1.l.length : Int))) && (decide (s3 < (c2.l.length : Int))))
noncomputable def zdY (kk : Nat) (sz : Nat) (a : (Sl zaE)) (b : (Sl zaE)) : Option (Int) :=
 ziA (zdi a b sz kk kk 0) (fun r => some r) fun (q7 : Int) =>
  some (zcX (a.l.length : Int) (b.l.length : Int))
end Go.Ev
set_option linter.unusedVariables false
namespace Go.Ev
end Go.Ev
namespace Go.Ev
def Evn (P : Nat → Prop) : Prop := ∃ N, ∀ n, N ≤ n → P n
structure zzu (p : Prop) : Prop where
 h : p
theorem evT : Evn fun _ => True := ⟨0, fun _ _ => trivial⟩
theorem Evn.and {P Q : Nat → Prop} (E : Evn P) (k : ∃ N, ∀ n, N ≤ n → Q n) : Evn fun n => P n ∧ Q n := by
 obtain ⟨M, E⟩ := E
 obtain ⟨N, k⟩ := k
 exact ⟨M + N, fun n h => ⟨E n (by omega), k n (by omega)⟩⟩
theorem Evn.lj {P Q : Nat → Prop} (E : Evn P) (k : ∃ N, ∀ n, N ≤ n → Q n) : ∃ N, zzu (∀ n, N ≤ n → Q n) ∧ Evn fun n => P n ∧ N ≤ n := by
 obtain ⟨N, k⟩ := k
 exact ⟨N, ⟨k⟩, E.and ⟨N, fun _ h => h⟩⟩
theorem Evn.lp {P : Nat → Prop} {Q : Nat → Nat → Prop} (E : Evn P) (k : ∃ N, ∀ n, N ≤ n → ∀ k, N ≤ k → Q n k) : ∃ N, zzu (∀ n, N ≤ n → Q n n) ∧ Evn fun n => P n ∧ N ≤ n := by
 obtain ⟨N, k⟩ := k
 exact ⟨N, ⟨fun n h => k n h n h⟩, E.and ⟨N, fun _ h => h⟩⟩
theorem Evn.s {P Q : Nat → Prop} (E : Evn P) (f : ∀ n, P n → Q (n + 1)) : ∃ N, ∀ n, N ≤ n → Q n := by
 obtain ⟨M, E⟩ := E
 refine ⟨M + 1, fun n h => ?_⟩
 obtain ⟨n, rfl⟩ := zwB h
 exact f n (E n (by omega))
theorem Evn.j {P Q : Nat → Prop} (E : Evn P) (f : ∀ n, P n → Q n) : ∃ N, ∀ n, N ≤ n → Q n := by
 obtain ⟨M, E⟩ := E
 exact ⟨M, fun n h => f n (E n h)⟩
theorem Evn.l {P : Nat → Prop} {Q : Nat → Nat → Prop} (E : Evn P) (f : ∀ n k, P n → Q n (k + 1)) : ∃ N, ∀ n, N ≤ n → ∀ k, N ≤ k → Q n k := by
 obtain ⟨M, E⟩ := E
 refine ⟨M + 1, fun n h k hk => ?_⟩
 obtain ⟨k, rfl⟩ := zwB hk
 exact f n k (E n (by omega))
theorem Evn.c {P : Nat → Prop} {I Q : Nat → Nat → Prop} (E : Evn P) (i : ∃ N, ∀ n, N ≤ n → ∀ k, N ≤ k → I n k) (f : ∀ n k, P n → zzu (I n k) → Q n (k + 1)) : ∃ N, ∀ n, N ≤ n → ∀ k, N ≤ k → Q n k := by
 obtain ⟨M, E⟩ := E
 obtain ⟨N, i⟩ := i
 refine ⟨M + N + 1, fun n h k hk => ?_⟩
 obtain ⟨k, rfl⟩ := zwB hk
 exact f n k (E n (by omega)) ⟨i n (by omega) k (by omega)⟩
section
variable {α : Type} {d : D} {m : Mem} {g T sz a b c' n : Nat} {c : α → List D} {l : List α} {r : Sl α} {Ts : List Nat}
@[go_sem] theorem zwV (cells : List D) : zeQ (.ptr (.loc T 0) g 0 0) m T sz cells = (m (.loc T 0) = some (.rows g false true sz [cells])) := by
  simp [zeQ]
@[go_sem] theorem zwa (cells : List D) : znr (.ptr (.loc T 0) g 0 0) m T sz cells = (m (.loc T 0) = some (.rows g false false sz [cells])) := by
  simp [znr]
@[go_sem] theorem zwT : zv0 (.own (.loc T 0) g 0 n) m T sz c l = (n = l.length ∧ m (.loc T 0) = some (.rows g false true sz (l.map c))) := by
  apply propext
  constructor
  · rintro ⟨g', h, k⟩; cases h; exact ⟨rfl, k⟩
  · rintro ⟨rfl, k⟩; exact ⟨g, rfl, k⟩
@[go_sem] theorem zvw (s : Str) (p : Nat) : zu9 (.iter (.loc T 0) g) m T s p = (m (.loc T 0) = some (.siter g s p)) := by
  simp [zu9]
@[go_sem] theorem zx2 (rows : List Row) : zq8 (.sl .nil rows) m Ts sz c l = (rows = [] ∧ l = []) := by
  apply propext
  constructor
  · rintro (⟨h, k⟩ | ⟨T, _, g', h, _⟩)
    · cases h; exact ⟨rfl, k⟩
    · cases h
  · rintro ⟨rfl, k⟩; exact .inl ⟨rfl, k⟩
@[go_sem] theorem zwU : zq8 (.own (.loc T 0) g 0 n) m Ts sz c l = (Ts.contains T = true ∧ n = l.length ∧ m (.loc T 0) = some (.rows g false true sz (l.map c)) ∧ (l = []) = False) := by
  apply propext
  constructor
  · rintro (⟨h, k⟩ | ⟨T, hT, g', h, k, k'⟩)
    · cases h
    · cases h; exact ⟨by simpa using hT, rfl, k, k'⟩
  · rintro ⟨hT, rfl, k, k'⟩; exact .inr ⟨T, by simpa using hT, g, rfl, k, k'⟩
@[go_sem] theorem zwR : zvZ (.own (.loc T 0) g 0 n) m Ts sz c ⟨.any, l⟩ = (Ts.contains T = true ∧ n = l.length ∧ m (.loc T 0) = some (.rows g false true sz (l.map c))) := by
  apply propext
  constructor
  · rintro (h | ⟨T, hT, l, hl, g', h, k⟩)
    · cases h
    · cases h; cases hl; exact ⟨by simpa using hT, rfl, k⟩
  · rintro ⟨hT, rfl, k⟩; exact .inr ⟨T, by simpa using hT, l, rfl, g, rfl, k⟩
@[go_sem] theorem zt8 (f : Fl) (rows : List Row) : zvZ (.sl f rows) m Ts sz c r = (.sl f rows = dSl c r) := by
  apply propext
  constructor
  · rintro (h | ⟨T, hT, l, hl, g', h, k⟩)
    · exact h
    · cases h
  · exact .inl
@[go_sem] theorem zwS (s : Sl α) : zvZ (dSl c s) m Ts sz c r = (dSl c s = dSl c r) := zt8 _ _
theorem zsf (h : zq8 d m Ts sz c l) : (d = .sl .nil [] ∧ l = []) ∨ ∃ T, T ∈ Ts ∧ ∃ g, d = .own (.loc T 0) g 0 l.length ∧ m (.loc T 0) = some (.rows g false true sz (l.map c)) ∧ (l = []) = False := h
theorem zuQ (h : zq8 d m [a] sz c l) : (d = .sl .nil [] ∧ l = []) ∨ ∃ g, d = .own (.loc a 0) g 0 l.length ∧ m (.loc a 0) = some (.rows g false true sz (l.map c)) ∧ (l = []) = False := by
 simpa using zsf h
end
def zxT (k : IntKind) (x y : Int) : Int := k.wrap (BitVec.ofInt k.bits x ^^^ BitVec.ofInt k.bits y).toNat
def zv2 (k : IntKind) (x y : Int) : Int := x.fdiv (2 ^ min y.toNat k.bits)
@[go_sem] theorem zxS (k : IntKind) (x y : Int) : zxT k x y = k.wrap (BitVec.ofInt k.bits x ^^^ BitVec.ofInt k.bits y).toNat := rfl
@[go_sem] theorem zxV (k : IntKind) (x y : Int) : zv2 k x y = x.fdiv (2 ^ min y.toNat k.bits) := rfl
@[go_sem] def zCT {α : Type} (l : List α) : Bool := open Classical in if l = [] then true else false
theorem zd1 {body : (Ex → St → Option Res) → St → Option Res} {k : Ex → St → Option Res} {n : Nat} {s : St} {t : Tok (body, k, n)} {R : Option Res → Prop} (h : R (zci body k n s)) : R (zsA body k n t s) := h
def zev {α : Type} (s : Sl α) : Bool := match s.fl with
 | .nil => true
 | .any => false
 | .full => false
@[go_sem] theorem zrA {α : Type} : zev (Sl.nil : Sl α) = true := rfl
@[go_sem] theorem zty {α : Type} (l : List α) : zev (Sl.of l) = false := rfl
@[go_sem] theorem zwC {α : Type} (l : List α) : zev ⟨.any, l⟩ = false := rfl
@[go_sem] theorem zxU {α : Type} (l : List α) : zev ⟨.nil, l⟩ = true := rfl
def zlz {α : Type} (s : Sl α) (g : Nat) : D := if zev s = true then .sl .nil [] else .own (.loc 0 0) g 0 s.l.length
def zfg {α : Type} (g sz : Nat) (c : α → List D) (s : Sl α) : List Blk := if zev s = true then [] else [.rows g false true sz (s.l.map c)]
def zs0 {α : Type} (d : D) (m : Mem) (Ts : List Nat) (sz : Nat) (c : α → List D) (r : Sl α) : Prop :=
 (d = .sl .nil [] ∧ zev r = true) ∨ ∃ T, T ∈ Ts ∧ ∃ l, r = Sl.of l ∧ ∃ g, d = .own (.loc T 0) g 0 l.length ∧ m (.loc T 0) = some (.rows g false true sz (l.map c))
@[go_sem] theorem zx1 {α : Type} {m : Mem} {Ts : List Nat} {sz : Nat} {c : α → List D} {r : Sl α} (rows : List Row) : zs0 (.sl .nil rows) m Ts sz c r = (rows = [] ∧ zev r = true) := by
  apply propext
  constructor
  · rintro (⟨h, k⟩ | ⟨T, _, l, _, g', h, _⟩)
    · cases h; exact ⟨rfl, k⟩
    · cases h
  · rintro ⟨rfl, k⟩; exact .inl ⟨rfl, k⟩
@[go_sem] theorem zwQ {α : Type} {m : Mem} {Ts : List Nat} {sz g n T : Nat} {c : α → List D} {l : List α} : zs0 (.own (.loc T 0) g 0 n) m Ts sz c ⟨.any, l⟩ = (Ts.contains T = true ∧ n = l.length ∧ m (.loc T 0) = some (.rows g false true sz (l.map c))) := by
  apply propext
  constructor
  · rintro (⟨h, _⟩ | ⟨T, hT, l, hl, g', h, k⟩)
    · cases h
    · cases h; cases hl; exact ⟨by simpa using hT, rfl, k⟩
  · rintro ⟨hT, rfl, k⟩; exact .inr ⟨T, by simpa using hT, l, rfl, g, rfl, k⟩
theorem zuP {α : Type} {d : D} {m : Mem} {sz a : Nat} {c : α → List D} {r : Sl α} (h : zs0 d m [a] sz c r) : (d = .sl .nil [] ∧ zev r = true) ∨ ∃ l g, r = Sl.of l ∧ d = .own (.loc a 0) g 0 l.length ∧ m (.loc a 0) = some (.rows g false true sz (l.map c)) := by
 rcases h with h | ⟨T, hT, l, hl, g, h', k⟩
 · exact .inl h
 · obtain rfl := List.mem_singleton.1 hT; exact .inr ⟨l, g, hl, h', k⟩
end Go.Ev
namespace Go.Ev
open Go
def zkd (rs : List Row) (i j : Nat) : Option D := bnd rs[i]? fun r => r[j]?
abbrev at_ (b o : Nat) : Addr := ⟨b, o, none⟩
inductive zdt (S : Nat → Prop) (w : World) : Value → D → Prop where
 | bool (b : Bool) : zdt S w (.bool b) (.bool b)
 | int (k : IntKind) (n : Int) : zdt S w (.int k n) (.int k n)
 | str (s : List UInt8) : zdt S w (.string ⟨s.toArray⟩) (.str s)
 | nilp : zdt S w (.pointer none) .nilp
 | nilm : zdt S w (.map none) .nilm
 | nilf : zdt S w .nilFunc .nilf
 | nili : zdt S w .nilIface .nili
 | iface (t : TypeId) (v : Value) (d : D) (h : zdt S w v d) : zdt S w (.iface t v) (.iface t d)
 | nilsl : zdt S w (.slice none 0 0) (.sl .nil [])
 | esl (f : Fl) (a : Addr) (hf : f ≠ .nil) : zdt S w (.slice (some a) 0 0) (.sl f [])
 | sl (f : Fl) (rs : List Row) (b o cap sz : Nat) (u : Nat → Nat → Value) (hf : f ≠ .nil) (hfull : f = .full → cap = rs.length) (hcap : rs.length ≤ cap) (hsz : 0 < sz)
  (hlen : ∀ r ∈ rs, r.length = sz) (hst : rs ≠ [] → S b) (hc : ∀ i j d, zkd rs i j = some d → w.cell? (at_ b (o + (i * sz + j))) = some (u i j))
  (hr : ∀ i j d, zkd rs i j = some d → zdt S w (u i j) d) (hcell : ∀ i j d, zkd rs i j = some d → cell d = true) : zdt S w (.slice (some (at_ b o)) rs.length cap) (.sl f rs)
def zda (w : World) (r : Nat) : Nat :=
 match w.heap[r]? with
 | some (.cells c _ _) => c.size
 | _ => 0
abbrev Loc := Nm → Nat × Nat
inductive Rep (S : Nat → Prop) (w : World) (ι : Loc) (m : Mem) : Value → D → Prop where
 | ext (v : Value) (d : D) (h : zdt S w v d) : Rep S w ι m v d
 | ptr (b : Nm) (g r o : Nat) (a : Addr) (hb : ∃ k, m b = some k ∧ g ≤ k.gen)
  (ha : ∀ fz cl sz rs, m b = some (.rows g fz cl sz rs) → a = at_ (ι b).1 ((ι b).2 + (r * sz + o))) : Rep S w ι m (.pointer (some a)) (.ptr b g r o)
 | eptr (row : Row) (o b base : Nat) (u : Nat → Value) (hst : row ≠ [] → S b) (hc : ∀ (i : Nat) (d : D), row[i]? = some d → w.cell? (at_ b (base + i)) = some (u i))
  (hr : ∀ (i : Nat) (d : D), row[i]? = some d → zdt S w (u i) d) (hcell : ∀ (i : Nat) (d : D), row[i]? = some d → cell d = true) : Rep S w ι m (.pointer (some (at_ b (base + o)))) (.eptr row o)
 | own (b : Nm) (g off len cap : Nat) (a : Addr) (hb : ∃ k, m b = some k ∧ g ≤ k.gen) (hcap : len ≤ cap) (hat : a.spot = none)
  (ha : ∀ fz cl sz rs, m b = some (.rows g fz cl sz rs) → (0 < cap → a = at_ (ι b).1 ((ι b).2 + off * sz)) ∧ (ι b).2 + (off + cap) * sz ≤ zda w (ι b).1) :
  Rep S w ι m (.slice (some a) len cap) (.own b g off len)
 | map (b : Nm) (g r : Nat) (hb : ∃ k, m b = some k ∧ g ≤ k.gen) (ha : ∀ cl es c, m b = some (.map g cl es c) → r = (ι b).1) : Rep S w ι m (.map (some r)) (.map b g)
 | iter (b : Nm) (g r : Nat) (hb : ∃ k, m b = some k ∧ g ≤ k.gen) (ha : ∀ k, m b = some k → k.gen = g → r = (ι b).1) : Rep S w ι m (.pointer (some (at_ r 0))) (.iter b g)
 | fn (f : Fn) (vf vc : Array Value) (fi ca : List D) (l1 : vf.size = fi.length) (l2 : vc.size = ca.length)
  (h1 : ∀ (i : Nat) (v : Value) (d : D), vf[i]? = some v → fi[i]? = some d → Rep S w ι m v d) (h2 : ∀ (i : Nat) (v : Value) (d : D), vc[i]? = some v → ca[i]? = some d → Rep S w ι m v d) : Rep S w ι m (.func f vf vc) (.fn f fi ca)
 | iface (t : TypeId) (v : Value) (d : D) (h : Rep S w ι m v d) : Rep S w ι m (.iface t v) (.iface t d)
 | agg (cs : Array Value) (ds : List D) (l : cs.size = ds.length) (h : ∀ (i : Nat) (v : Value) (d : D), cs[i]? = some v → ds[i]? = some d → Rep S w ι m v d) (hcell : ∀ d ∈ ds, cell d = true) : Rep S w ι m (.agg cs) (.agg ds)
 | tup (cs : Array Value) (ds : List D) (l : cs.size = ds.length) (h : ∀ (i : Nat) (v : Value) (d : D), cs[i]? = some v → ds[i]? = some d → Rep S w ι m v d) : Rep S w ι m (.tuple cs) (.tup ds)
 | unk (v : Value) : Rep S w ι m v .unk
def zcD : Blk → Blk → Prop
 | .rows g _ _ sz _, .rows g' _ _ sz' _ => g = g' ∧ sz = sz'
 | .map g _ _ _, .map g' _ _ _ => g = g'
 | .siter g _ _, .siter g' _ _ => g = g'
 | .miter g _ _ _ _, .miter g' _ _ _ _ => g = g'
 | _, _ => False
theorem zcD.refl (k : Blk) : zcD k k := by cases k <;> simp [zcD]
theorem zcD.gen {k k' : Blk} (h : zcD k k') : k.gen = k'.gen := by
 cases k <;> cases k' <;> simp_all [zcD, Blk.gen]
theorem zcD.trans {a b c : Blk} (h : zcD a b) (k : zcD b c) : zcD a c := by
 cases a <;> cases b <;> simp_all [zcD] <;> cases c <;> simp_all
structure Ext (S : Nat → Prop) (w : World) (ι : Loc) (m : Mem) (S' : Nat → Prop) (w' : World) (ι' : Loc) (m' : Mem) : Prop where
 st : ∀ r, S r → S' r
 old : ∀ r, S r → w'.heap[r]? = w.heap[r]?
 blk : ∀ b k, m b = some k → ∃ k', m' b = some k' ∧ (k.gen < k'.gen ∨ (zcD k k' ∧ ι' b = ι b ∧ zda w (ι b).1 ≤ zda w' (ι b).1))
theorem Ext.refl (S : Nat → Prop) (w : World) (ι : Loc) (m : Mem) : Ext S w ι m S w ι m :=
 ⟨fun _ h => h, fun _ _ => rfl, fun _ k h => ⟨k, h, .inr ⟨zcD.refl k, rfl, Nat.le_refl _⟩⟩⟩
theorem Ext.trans {S S' S'' : Nat → Prop} {w w' w'' : World} {ι ι' ι'' : Loc} {m m' m'' : Mem} (h : Ext S w ι m S' w' ι' m') (k : Ext S' w' ι' m' S'' w'' ι'' m'') : Ext S w ι m S'' w'' ι'' m'' := by
 refine ⟨fun r hr => k.st r (h.st r hr), fun r hr => (k.old r (h.st r hr)).trans (h.old r hr), fun b x hx => ?_⟩
 obtain ⟨y, hy, hxy⟩ := h.blk b x hx
 obtain ⟨z, hz, hyz⟩ := k.blk b y hy
 refine ⟨z, hz, ?_⟩
 rcases hxy with hxy | ⟨s1, i1, b1⟩
 · rcases hyz with hyz | ⟨s2, _, _⟩
   · exact .inl (Nat.lt_trans hxy hyz)
   · exact .inl (s2.gen ▸ hxy)
 · rcases hyz with hyz | ⟨s2, i2, b2⟩
   · exact .inl (s1.gen ▸ hyz)
   · rw [i1] at i2 b2
     exact .inr ⟨s1.trans s2, i2, Nat.le_trans b1 b2⟩
theorem zhu {w w' : World} {b o : Nat} (h : w'.heap[b]? = w.heap[b]?) : w'.cell? (at_ b o) = w.cell? (at_ b o) := World.cell?_of_block (w := w) h
theorem zvz {rs : List Row} {i j : Nat} {d : D} (h : zkd rs i j = some d) : rs ≠ [] := by
 intro e; subst e; simp [zkd, bnd] at h
theorem zqz {α : Type} {l : List α} {i : Nat} {d : α} (h : l[i]? = some d) : l ≠ [] := by
 intro e; subst e; simp at h
theorem zdt.mono {S S' : Nat → Prop} {w w' : World} {v : Value} {d : D} (h : zdt S w v d) (hS : ∀ r, S r → S' r) (hw : ∀ r, S r → w'.heap[r]? = w.heap[r]?) : zdt S' w' v d := by
 induction h with
 | bool b => exact .bool b
 | int k n => exact .int k n
 | str s => exact .str s
 | nilp => exact .nilp
 | nilm => exact .nilm
 | nilf => exact .nilf
 | nili => exact .nili
 | iface t v d _ ih => exact .iface t v d ih
 | nilsl => exact .nilsl
 | esl f a hf => exact .esl f a hf
 | sl f rs b o cap sz u hf hfull hcap hsz hlen hst hc _ hcell ih =>
   exact .sl f rs b o cap sz u hf hfull hcap hsz hlen (fun h => hS _ (hst h)) (fun i j d h => by rw [zhu (hw _ (hst (zvz h)))]; exact hc i j d h) ih hcell
theorem Rep.ext' {S S' : Nat → Prop} {w w' : World} {ι ι' : Loc} {m m' : Mem} {v : Value} {d : D} (h : Rep S w ι m v d) (e : Ext S w ι m S' w' ι' m') : Rep S' w' ι' m' v d := by
 have live : ∀ b g, (∃ k, m b = some k ∧ g ≤ k.gen) → ∃ k', m' b = some k' ∧ g ≤ k'.gen := by
  rintro b g ⟨k, hk, hg⟩
  obtain ⟨k', hk', hh⟩ := e.blk b k hk
  refine ⟨k', hk', ?_⟩
  rcases hh with hh | ⟨s, _, _⟩
  · omega
  · have := s.gen; omega
 have back : ∀ b g k', (∃ k, m b = some k ∧ g ≤ k.gen) → m' b = some k' → k'.gen = g → ∃ k, m b = some k ∧ zcD k k' ∧ ι' b = ι b ∧ zda w (ι b).1 ≤ zda w' (ι b).1 := by
  rintro b g k' ⟨k, hk, hg⟩ hk' hg'
  obtain ⟨k2, hk2, hh⟩ := e.blk b k hk
  rw [hk'] at hk2
  obtain rfl := Option.some.inj hk2
  rcases hh with hh | ⟨s, i, z⟩
  · omega
  · exact ⟨k, hk, s, i, z⟩
 induction h with
 | ext v d h => exact .ext v d (h.mono e.st e.old)
 | ptr b g r o a hb ha =>
   refine .ptr b g r o a (live b g hb) fun fz cl sz rs hm => ?_
   obtain ⟨k, hk, s, i, _⟩ := back b g _ hb hm rfl
   cases k with
   | rows g2 fz2 cl2 sz2 rs2 =>
     simp only [zcD] at s
     obtain ⟨rfl, rfl⟩ := s
     rw [i]; exact ha _ _ _ _ hk
   | map _ _ _ _ => exact s.elim
   | siter _ _ _ => exact s.elim
   | miter _ _ _ _ _ => exact s.elim
 | eptr row o b base u hst hc hr hcell =>
   exact .eptr row o b base u (fun h => e.st _ (hst h)) (fun i d h => by rw [zhu (e.old _ (hst (zqz h)))]; exact hc i d h) (fun i d h => (hr i d h).mono e.st e.old) hcell
 | own b g off len cap a hb hcap hat ha =>
   refine .own b g off len cap a (live b g hb) hcap hat fun fz cl sz rs hm => ?_
   obtain ⟨k, hk, s, i, z⟩ := back b g _ hb hm rfl
   cases k with
   | rows g2 fz2 cl2 sz2 rs2 =>
     simp only [zcD] at s
     obtain ⟨rfl, rfl⟩ := s
     rw [i]
     obtain ⟨h1, h2⟩ := ha _ _ _ _ hk
     exact ⟨h1, Nat.le_trans h2 z⟩
   | map _ _ _ _ => exact s.elim
   | siter _ _ _ => exact s.elim
   | miter _ _ _ _ _ => exact s.elim
 | map b g r hb ha =>
   refine .map b g r (live b g hb) fun cl es c hm => ?_
   obtain ⟨k, hk, s, i, _⟩ := back b g _ hb hm rfl
   cases k with
   | map g2 cl2 es2 c2 =>
     simp only [zcD] at s
     subst s
     rw [i]; exact ha _ _ _ hk
   | rows _ _ _ _ _ => exact s.elim
   | siter _ _ _ => exact s.elim
   | miter _ _ _ _ _ => exact s.elim
 | iter b g r hb ha =>
   refine .iter b g r (live b g hb) fun k' hm hg => ?_
   obtain ⟨k, hk, s, i, _⟩ := back b g _ hb hm hg
   rw [i]; exact ha k hk (s.gen.trans hg)
 | fn f vf vc fi ca l1 l2 _ _ ih1 ih2 => exact .fn f vf vc fi ca l1 l2 ih1 ih2
 | iface t v d _ ih => exact .iface t v d ih
 | agg cs ds l _ hcell ih => exact .agg cs ds l ih hcell
 | tup cs ds l _ ih => exact .tup cs ds l ih
 | unk v => exact .unk v
end Go.Ev
namespace Go.Ev
open Go
def zb1 : Blk → Bool
 | .rows _ fz _ _ _ => fz
 | .map _ _ _ _ => false
 | .siter _ _ _ => false
 | .miter _ _ _ _ _ => false
structure zg0 (S : Nat → Prop) (w : World) (ι : Loc) (m : Mem) (cl : Bool) (e : MapEntry) (d : Ent) : Prop where
 key : zdt S w e.key d.key
 val : Rep S w ι m e.val d.val
 born : e.born = d.born
 still : cl = true → ids d.val = []
def zfy (S : Nat → Prop) (w : World) (ι : Loc) (m : Mem) (r o : Nat) : Blk → Prop
 | .rows _ fz cl sz rs => ∃ (cur : Array Value) (e : TypeId) (lo hi : Nat), w.heap[r]? = some (.cells cur e (lo, hi)) ∧ (fz = false → ∀ x, x < cur.size → ¬(lo ≤ x ∧ x < hi)) ∧ 0 < sz ∧
  (∀ row ∈ rs, row.length = sz) ∧ o + rs.length * sz ≤ cur.size ∧
  ∀ i j d, zkd rs i j = some d → ∃ u, cur[o + (i * sz + j)]? = some u ∧ Rep S w ι m u d ∧ cell d = true ∧ (cl = true → zdt S w u d)
 | .map _ cl es c => ∃ ents : Array MapEntry, w.heap[r]? = some (.map ents c) ∧ ents.size = es.length ∧ ∀ (i : Nat) (e : MapEntry) (d : Ent), ents[i]? = some e → es[i]? = some d → zg0 S w ι m cl e d
 | .siter _ s pos => w.heap[r]? = some (.stringIter ⟨s.toArray⟩ pos)
 | .miter _ mm since seen last => ∃ x, w.heap[r]? = some (.mapIter x since seen.toArray last) ∧ (mm = none → x = none) ∧ ∀ q, mm = some q → ∃ y, x = some y ∧ Rep S w ι m (.map (some y)) (.map q.1 q.2)
theorem zfy.lt {S : Nat → Prop} {w : World} {ι : Loc} {m : Mem} {r o : Nat} {k : Blk} (h : zfy S w ι m r o k) : r < w.heap.size := by
 have : ∃ x, w.heap[r]? = some x := by
  cases k with
  | rows g fz cl sz rs => obtain ⟨cur, e, lo, hi, h1, _⟩ := h; exact ⟨_, h1⟩
  | map g cl es c => obtain ⟨ents, h1, _⟩ := h; exact ⟨_, h1⟩
  | siter g s p => exact ⟨_, h⟩
  | miter g mm since seen last => obtain ⟨x, h1, _⟩ := h; exact ⟨_, h1⟩
 obtain ⟨x, hx⟩ := this
 rcases Nat.lt_or_ge r w.heap.size with h' | h'
 · exact h'
 · simp [Array.getElem?_eq_none h'] at hx
theorem zfy.mono {S S' : Nat → Prop} {w w' : World} {ι ι' : Loc} {m m' : Mem} {r o : Nat} {k : Blk} (h : zfy S w ι m r o k) (e : Ext S w ι m S' w' ι' m') (hw : w'.heap[r]? = w.heap[r]?) :
 zfy S' w' ι' m' r o k := by
 cases k with
 | rows g fz cl sz rs =>
   obtain ⟨cur, t, lo, hi, h1, h2, h3, h4, h5, h6⟩ := h
   refine ⟨cur, t, lo, hi, hw.trans h1, h2, h3, h4, h5, fun i j d hd => ?_⟩
   obtain ⟨u, a1, a2, a3, a4⟩ := h6 i j d hd
   exact ⟨u, a1, a2.ext' e, a3, fun hc => (a4 hc).mono e.st e.old⟩
 | map g cl es c =>
   obtain ⟨ents, h1, h2, h3⟩ := h
   refine ⟨ents, hw.trans h1, h2, fun i x d hx hd => ?_⟩
   obtain ⟨k1, k2, k3, k4⟩ := h3 i x d hx hd
   exact ⟨k1.mono e.st e.old, k2.ext' e, k3, k4⟩
 | siter g s p => exact hw.trans h
 | miter g mm since seen last =>
   obtain ⟨x, h1, h2, h3⟩ := h
   refine ⟨x, hw.trans h1, h2, fun q hq => ?_⟩
   obtain ⟨y, h4, h5⟩ := h3 q hq
   exact ⟨y, h4, h5.ext' e⟩
structure Sim (S : Nat → Prop) (w : World) (ι : Loc) (m : Mem) : Prop where
 own : ∀ b k, m b = some k → zfy S w ι m (ι b).1 (ι b).2 k
 inj : ∀ b b', m b ≠ none → m b' ≠ none → (ι b).1 = (ι b').1 → b = b'
 apart : ∀ b k, m b = some k → zb1 k = false → ¬ S (ι b).1
 fz : ∀ b k, m b = some k → zb1 k = true → S (ι b).1
 lt : ∀ r, S r → r < w.heap.size
structure Pg (S : Nat → Prop) (w : World) (ι : Loc) (m : Mem) (S' : Nat → Prop) (w' : World) (ι' : Loc) (m' : Mem) : Prop where
 ext : Ext S w ι m S' w' ι' m'
 os : w'.os = w.os
 tape : w'.tape = w.tape
 output : w'.output = w.output
 size : w.heap.size ≤ w'.heap.size
 keep : ∀ r, r < w.heap.size → (∀ b k, m b = some k → zb1 k = false → (ι b).1 ≠ r) → w'.heap[r]? = w.heap[r]?
 stB : ∀ r, S' r → S r ∨ w.heap.size ≤ r ∨ ∃ b k, m b = some k ∧ zb1 k = false ∧ (ι b).1 = r
 img : ∀ b k', m' b = some k' → zb1 k' = false → w.heap.size ≤ (ι' b).1 ∨ ∃ b0 k0, m b0 = some k0 ∧ zb1 k0 = false ∧ (ι b0).1 = (ι' b).1
 any : ∀ b k', m' b = some k' → w.heap.size ≤ (ι' b).1 ∨ ∃ b0 k0, m b0 = some k0 ∧ (ι b0).1 = (ι' b).1
theorem Pg.refl (S : Nat → Prop) (w : World) (ι : Loc) (m : Mem) : Pg S w ι m S w ι m :=
 ⟨Ext.refl _ _ _ _, rfl, rfl, rfl, Nat.le_refl _, fun _ _ _ => rfl, fun _ h => .inl h, fun b k h hf => .inr ⟨b, k, h, hf, rfl⟩, fun b k h => .inr ⟨b, k, h, rfl⟩⟩
theorem Pg.trans {S S' S'' : Nat → Prop} {w w' w'' : World} {ι ι' ι'' : Loc} {m m' m'' : Mem} (h : Pg S w ι m S' w' ι' m') (k : Pg S' w' ι' m' S'' w'' ι'' m'') : Pg S w ι m S'' w'' ι'' m'' := by
 refine ⟨h.ext.trans k.ext, k.os.trans h.os, k.tape.trans h.tape, k.output.trans h.output, Nat.le_trans h.size k.size, fun r hr hn => ?_, fun r hr => ?_, fun b x hx hf => ?_, fun b x hx => ?_⟩
 · rw [k.keep r (Nat.lt_of_lt_of_le hr h.size) (fun b x hx hf e => ?_), h.keep r hr hn]
   rcases h.img b x hx hf with h1 | ⟨b0, k0, h1, h2, h3⟩
   · omega
   · exact hn b0 k0 h1 h2 (h3.trans e)
 · rcases k.stB r hr with h1 | h1 | ⟨b, x, hx, hf, e⟩
   · exact h.stB r h1
   · exact .inr (.inl (Nat.le_trans h.size h1))
   · rcases h.img b x hx hf with h2 | ⟨b0, k0, h2, h3, h4⟩
     · exact .inr (.inl (e ▸ h2))
     · exact .inr (.inr ⟨b0, k0, h2, h3, h4.trans e⟩)
 · rcases k.img b x hx hf with h1 | ⟨b1, k1, h1, h2, h3⟩
   · exact .inl (Nat.le_trans h.size h1)
   · rcases h.img b1 k1 h1 h2 with h4 | ⟨b0, k0, h4, h5, h6⟩
     · exact .inl (h3 ▸ h4)
     · exact .inr ⟨b0, k0, h4, h5, h6.trans h3⟩
 · rcases k.any b x hx with h1 | ⟨b1, k1, h1, h3⟩
   · exact .inl (Nat.le_trans h.size h1)
   · rcases h.any b1 k1 h1 with h4 | ⟨b0, k0, h4, h6⟩
     · exact .inl (h3 ▸ h4)
     · exact .inr ⟨b0, k0, h4, h6.trans h3⟩
def Loc.upd (ι : Loc) (b : Nm) (p : Nat × Nat) : Loc := fun x => if x = b then p else ι x
@[simp] theorem Loc.upd_same (ι : Loc) (b : Nm) (p : Nat × Nat) : (ι.upd b p) b = p := by simp [Loc.upd]
theorem Loc.upd_ne (ι : Loc) {b c : Nm} (p : Nat × Nat) (h : c ≠ b) : (ι.upd b p) c = ι c := by simp [Loc.upd, h]
@[simp] theorem Mem.upd_same (m : Mem) (b : Nm) (k : Blk) : (m.upd b k) b = some k := by simp [Mem.upd]
theorem Mem.upd_ne (m : Mem) {b c : Nm} (k : Blk) (h : c ≠ b) : (m.upd b k) c = m c := by simp [Mem.upd, h]
theorem zhw {w w' : World} {r : Nat} (h : w'.heap[r]? = w.heap[r]?) : zda w' r = zda w r := by simp [zda, h]
theorem Mem.upd_some {m : Mem} {b c : Nm} {k k' : Blk} (h : (m.upd b k) c = some k') : (c = b ∧ k' = k) ∨ (c ≠ b ∧ m c = some k') := by
 by_cases e : c = b
 · subst e; rw [Mem.upd_same] at h; exact .inl ⟨rfl, (Option.some.inj h).symm⟩
 · rw [Mem.upd_ne _ _ e] at h; exact .inr ⟨e, h⟩
theorem zf6 {S : Nat → Prop} {w w' : World} {ι : Loc} {m : Mem} (hs : Sim S w ι m) (b : Nm) (k' : Blk) (r' o' : Nat)
 (hos : w'.os = w.os) (htape : w'.tape = w.tape) (hout : w'.output = w.output) (hsz : w.heap.size ≤ w'.heap.size)
 (hkeep : ∀ r, r < w.heap.size → r ≠ r' → w'.heap[r]? = w.heap[r]?)
 (hr : (w.heap.size ≤ r') ∨ (∃ k, m b = some k ∧ zb1 k = false ∧ r' = (ι b).1))
 (hgen : ∀ k, m b = some k → k.gen < k'.gen ∨ (zcD k k' ∧ (r', o') = ι b ∧ zda w r' ≤ zda w' r'))
 (hf : zb1 k' = false)
 (hok : Ext S w ι m S w' (ι.upd b (r', o')) (m.upd b k') → zfy S w' (ι.upd b (r', o')) (m.upd b k') r' o' k') :
 Sim S w' (ι.upd b (r', o')) (m.upd b k') ∧ Pg S w ι m S w' (ι.upd b (r', o')) (m.upd b k') := by
 have hSr : ∀ r, S r → r ≠ r' := by
  rintro r h rfl
  rcases hr with h1 | ⟨k, h1, h2, h3⟩
  · have := hs.lt _ h; omega
  · exact hs.apart b k h1 h2 (h3 ▸ h)
 have hother : ∀ c k, m c = some k → c ≠ b → (ι c).1 ≠ r' := by
  intro c k hc hne e
  rcases hr with h1 | ⟨k2, h1, h2, h3⟩
  · have := (hs.own c k hc).lt; omega
  · exact hne (hs.inj c b (by simp [hc]) (by simp [h1]) (e.trans h3))
 have hext : Ext S w ι m S w' (ι.upd b (r', o')) (m.upd b k') := by
  refine ⟨fun _ h => h, fun r h => hkeep r (hs.lt r h) (hSr r h), fun c k hc => ?_⟩
  by_cases e : c = b
  · subst e
    refine ⟨k', Mem.upd_same _ _ _, ?_⟩
    rcases hgen k hc with h1 | ⟨h1, h2, h3⟩
    · exact .inl h1
    · refine .inr ⟨h1, by rw [Loc.upd_same]; exact h2, ?_⟩
      rw [← h2]; exact h3
  · refine ⟨k, by rw [Mem.upd_ne _ _ e]; exact hc, .inr ⟨zcD.refl k, Loc.upd_ne _ _ e, ?_⟩⟩
    exact Nat.le_of_eq (zhw (hkeep _ (hs.own c k hc).lt (hother c k hc e))).symm
 refine ⟨⟨fun c k hc => ?_, fun c c' hc hc' e => ?_, fun c k hc hk => ?_, fun c k hc hk => ?_, fun r h => Nat.lt_of_lt_of_le (hs.lt r h) hsz⟩, ⟨hext, hos, htape, hout, hsz, fun r h hn => ?_, fun r h => .inl h, fun c k hc hk => ?_, fun c k hc => ?_⟩⟩
 · rcases Mem.upd_some hc with ⟨rfl, rfl⟩ | ⟨e, hc⟩
   · rw [Loc.upd_same]; exact hok hext
   · rw [Loc.upd_ne _ _ e]
     exact (hs.own c k hc).mono hext (hkeep _ (hs.own c k hc).lt (hother c k hc e))
 · by_cases e1 : c = b
   · by_cases e2 : c' = b
     · exact e1.trans e2.symm
     · exfalso
       subst e1
       rw [Loc.upd_same, Loc.upd_ne _ _ e2] at e
       rw [Mem.upd_ne _ _ e2] at hc'
       obtain ⟨k, hk⟩ := Option.ne_none_iff_exists'.1 hc'
       exact hother c' k hk e2 e.symm
   · by_cases e2 : c' = b
     · exfalso
       subst e2
       rw [Loc.upd_same, Loc.upd_ne _ _ e1] at e
       rw [Mem.upd_ne _ _ e1] at hc
       obtain ⟨k, hk⟩ := Option.ne_none_iff_exists'.1 hc
       exact hother c k hk e1 e
     · rw [Loc.upd_ne _ _ e1, Loc.upd_ne _ _ e2] at e
       rw [Mem.upd_ne _ _ e1] at hc
       rw [Mem.upd_ne _ _ e2] at hc'
       exact hs.inj c c' hc hc' e
 · rcases Mem.upd_some hc with ⟨rfl, rfl⟩ | ⟨e, hc⟩
   · rw [Loc.upd_same]; exact fun h => hSr _ h rfl
   · rw [Loc.upd_ne _ _ e]; exact hs.apart c k hc hk
 · rcases Mem.upd_some hc with ⟨rfl, rfl⟩ | ⟨e, hc⟩
   · rw [hf] at hk; cases hk
   · rw [Loc.upd_ne _ _ e]; exact hs.fz c k hc hk
 · refine hkeep r h ?_
   rintro rfl
   rcases hr with h1 | ⟨k, h1, h2, h3⟩
   · omega
   · exact hn b k h1 h2 h3.symm
 · rcases Mem.upd_some hc with ⟨rfl, rfl⟩ | ⟨e, hc⟩
   · rw [Loc.upd_same]
     rcases hr with h1 | ⟨k0, h1, h2, h3⟩
     · exact .inl h1
     · exact .inr ⟨c, k0, h1, h2, h3.symm⟩
   · rw [Loc.upd_ne _ _ e]; exact .inr ⟨c, k, hc, hk, rfl⟩
 · rcases Mem.upd_some hc with ⟨rfl, rfl⟩ | ⟨e, hc⟩
   · rw [Loc.upd_same]
     rcases hr with h1 | ⟨k0, h1, h2, h3⟩
     · exact .inl h1
     · exact .inr ⟨c, k0, h1, h3.symm⟩
   · rw [Loc.upd_ne _ _ e]; exact .inr ⟨c, k, hc, rfl⟩
theorem zn0 {S : Nat → Prop} {w : World} {ι : Loc} {m : Mem} (hs : Sim S w ι m) (b : Nm) (g : Nat) (fz cl : Bool) (sz : Nat) (rs : List Row) (hm : m b = some (.rows g fz cl sz rs)) :
 Sim (fun r => S r ∨ r = (ι b).1) w ι (m.upd b (.rows g true cl sz rs)) ∧ Pg S w ι m (fun r => S r ∨ r = (ι b).1) w ι (m.upd b (.rows g true cl sz rs)) := by
 have hext : Ext S w ι m (fun r => S r ∨ r = (ι b).1) w ι (m.upd b (.rows g true cl sz rs)) := by
  refine ⟨fun _ h => .inl h, fun _ _ => rfl, fun c k hc => ?_⟩
  by_cases e : c = b
  · subst e
    rw [hm] at hc
    obtain rfl := Option.some.inj hc
    exact ⟨_, Mem.upd_same _ _ _, .inr ⟨⟨rfl, rfl⟩, rfl, Nat.le_refl _⟩⟩
  · exact ⟨k, by rw [Mem.upd_ne _ _ e]; exact hc, .inr ⟨zcD.refl k, rfl, Nat.le_refl _⟩⟩
 have hnn : ∀ c, (m.upd b (.rows g true cl sz rs)) c ≠ none → m c ≠ none := by
  intro c hc
  by_cases e : c = b
  · subst e; simp [hm]
  · rwa [Mem.upd_ne _ _ e] at hc
 refine ⟨⟨fun c k hc => ?_, fun c c' hc hc' e => hs.inj c c' (hnn c hc) (hnn c' hc') e, fun c k hc hk => ?_, fun c k hc hk => ?_, ?_⟩,
  ⟨hext, rfl, rfl, rfl, Nat.le_refl _, fun _ _ _ => rfl, fun r h => ?_, fun c k hc hk => ?_, fun c k hc => ?_⟩⟩
 · rcases Mem.upd_some hc with ⟨rfl, rfl⟩ | ⟨e, hc⟩
   · obtain ⟨cur, t, lo, hi, h1, _, h3, h4, h5, h6⟩ := (hs.own _ _ hm).mono hext rfl
     exact ⟨cur, t, lo, hi, h1, (fun h => by cases h), h3, h4, h5, h6⟩
   · exact (hs.own c k hc).mono hext rfl
 · rcases Mem.upd_some hc with ⟨rfl, rfl⟩ | ⟨e, hc⟩
   · cases hk
   · rintro (h | h)
     · exact hs.apart c k hc hk h
     · exact e (hs.inj c b (by simp [hc]) (by simp [hm]) h)
 · rcases Mem.upd_some hc with ⟨rfl, rfl⟩ | ⟨e, hc⟩
   · exact .inr rfl
   · exact .inl (hs.fz c k hc hk)
 · rintro r (h | rfl)
   · exact hs.lt r h
   · exact (hs.own _ _ hm).lt
 · rcases h with h | rfl
   · exact .inl h
   · cases fz with
     | true => exact .inl (hs.fz b _ hm rfl)
     | false => exact .inr (.inr ⟨b, _, hm, rfl, rfl⟩)
 · rcases Mem.upd_some hc with ⟨rfl, rfl⟩ | ⟨e, hc⟩
   · cases hk
   · exact .inr ⟨c, k, hc, hk, rfl⟩
 · rcases Mem.upd_some hc with ⟨rfl, rfl⟩ | ⟨e, hc⟩
   · exact .inr ⟨c, _, hm, rfl⟩
   · exact .inr ⟨c, k, hc, rfl⟩
end Go.Ev
