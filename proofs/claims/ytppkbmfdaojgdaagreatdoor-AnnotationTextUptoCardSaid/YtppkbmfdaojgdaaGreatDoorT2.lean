/- AnnotationText: for every annotation and string that hold together at most 1048576 values and letters, the law returns true. Condition: that bound (the Upto form). -/
import Derived.Laws.StructEq
import Derived.Attr
import Derived.Below
import Derived.Test.YtppkbmfdaojgdaaGreatDoorT1
set_option linter.all false
namespace Go.Ev
def zqT : Value → Option D
 | .bool b => some (.bool b)
 | .int k n => some (.int k n)
 | .string s => some (.str s.data.toList)
 | .pointer none => some .nilp
 | .slice none 0 0 => some (.sl .nil [])
 | .map none => some .nilm
 | .nilFunc => some .nilf
 | .nilIface => some .nili
 | _ => none
def zo3 : List Value → Option (List D)
 | [] => some []
 | v :: r => bnd (zqT v) fun d => bnd (zo3 r) fun l => some (d :: l)
def ofV : Value → Option D
 | .agg cs => bnd (zo3 cs.toList) fun l => some (.agg l)
 | .bool b => some (.bool b)
 | .int k n => some (.int k n)
 | .string s => some (.str s.data.toList)
 | .pointer none => some .nilp
 | .slice none 0 0 => some (.sl .nil [])
 | .map none => some .nilm
 | .nilFunc => some .nilf
 | .nilIface => some .nili
 | _ => none
def zNA : Option D → D
 | some d => d
 | none => .unk
inductive TK where
 | int (k : IntKind) | bool | str | ptr | slice (e : TypeId) | array (n : Nat) (e : TypeId) | map (k e : TypeId)
 | struct (fs : List (TypeId × Nat)) | func | iface | tuple | other
 deriving Inhabited
structure TI where
 kind : TK
 size : Nat
 bytes : Nat
 zero : List D
 deriving Inhabited
def zj4 : TypeDesc → TK
 | .int k => .int k
 | .bool => .bool
 | .string => .str
 | .pointer _ => .ptr
 | .slice e => .slice e
 | .array n e => .array n e
 | .map k e => .map k e
 | .struct fs => .struct (fs.toList.map fun f => (f.type, f.offset))
 | .func _ _ _ => .func
 | .interface _ => .iface
 | .tuple _ => .tuple
 | _ => .other
def TK.agg : TK → Bool
 | .struct _ | .array _ _ => true
 | _ => false
def zNd (P : Program) (t : TypeId) : Option TI :=
 match P.info? t, P.underlying t with
 | some i, some u =>
   match i.zero with
   | some z => (zo3 z.cells.toList).map fun zc => ⟨zj4 u, i.size, i.bytes, zc⟩
   | none => none
 | _, _ => none
def zd1 (P : Program) (t : TypeId) : Option TI := if t < P.types.size then zNd P t else none
def kOf (P : Program) (t : TypeId) : Option TK := (zd1 P t).map TI.kind
def zE5 (P : Program) (t : TypeId) : Bool :=
 match P.underlying t with
 | some (.struct fs) => !P.stoodInHeld t && !P.eqGuardType P.depth t && fs.toList.zipIdx.all (fun p => p.1.name != "_" && p.1.offset == p.2)
 | _ => false
def opd (e : Env) : Operand → D
 | .tmp t => e t
 | .const v => zNA (ofV v)
 | .global _ => .unk
 | .func f => .fn (.func f) [] []
def cellsOf : D → List D
 | .agg cs => cs
 | .bool b => [.bool b]
 | .int k n => [.int k n]
 | .str s => [.str s]
 | .nilp => [.nilp]
 | .ptr b g r o => [.ptr b g r o]
 | .eptr r o => [.eptr r o]
 | .sl f r => [.sl f r]
 | .own b g o l => [.own b g o l]
 | .nilm => [.nilm]
 | .map b g => [.map b g]
 | .iter b g => [.iter b g]
 | .fn f a b => [.fn f a b]
 | .nilf => [.nilf]
 | .iface t v => [.iface t v]
 | .nili => [.nili]
 | .tup l => [.tup l]
 | .unk => [.unk]
def only : List D → Option D
 | [d] => some d
 | _ => none
def zHw (k : TK) (cs : List D) : Option D := if k.agg then some (.agg cs) else only cs
def zct : List D → Bool
 | [] => true
 | d :: r => cell d && zct r
def zbb : List D → Bool
 | [] => true
 | d :: r => still d && zbb r
def zga : List Row → Bool
 | [] => true
 | d :: r => zbb d && zga r
def cut {α : Type} (l : List α) (off len : Nat) : List α := if off = 0 ∧ len = l.length then l else (l.drop off).take len
def put {α : Type} (l : List α) (off : Nat) (new : List α) : List α := l.take off ++ (new ++ l.drop (off + new.length))
def part (ti : TI) (cs : List D) (off : Nat) : Option D :=
 bnd (ok (decide ((cut cs off ti.size).length = ti.size))) fun _ => zHw ti.kind (cut cs off ti.size)
def zAa : D → D → TK → Option Bool
 | .bool a, .bool b, .bool => some (a == b)
 | .int j a, .int k b, .int _ => if j = k then some (a == b) else none
 | .str a, .str b, .str => some (a == b)
 | _, _, _ => none
def zhW (P : Program) : List (TypeId × Nat) → List D → List D → Option Bool
 | [], [], [] => some true
 | f :: fs, x :: xs, y :: ys => bnd (bnd (kOf P f.1) (zAa x y)) fun a => bnd (zhW P fs xs ys) fun b => some (a && b)
 | _, _, _ => none
def zRP (P : Program) (xs ys : List D) : TK → Option Bool
 | .struct fs => zhW P fs xs ys
 | _ => none
def zx5 (c : Bool) : D → D → TK → Option Bool
 | .bool a, .bool b, .bool => some (a == b)
 | .nilp, .nilp, .ptr => some true
 | .sl .nil _, .sl .nil _, .slice _ => some true
 | .sl .nil _, .sl .any _, .slice _ => some false
 | .sl .nil _, .sl .full _, .slice _ => some false
 | .sl .any _, .sl .nil _, .slice _ => some false
 | .sl .full _, .sl .nil _, .slice _ => some false
 | .own _ _ _ _, .sl .nil _, .slice _ => some false
 | .nili, .nili, .iface => if c then some true else none
 | .iface _ _, .nili, .iface => some false
 | .nili, .iface _ _, .iface => some false
 | _, _, _ => none
def deq (P : Program) (t : TypeId) (c : Bool) : D → D → Option Bool
 | .agg xs, .agg ys => bnd (ok (zE5 P t)) fun _ => bnd (kOf P t) (zRP P xs ys)
 | x, y => bnd (kOf P t) (zx5 c x y)
def zda : List UInt8 → List UInt8 → Bool
 | _, [] => false
 | [], _ :: _ => true
 | a :: x, b :: y => a < b || (a == b && zda x y)
def zBn (k : IntKind) (x y : Int) : BinOp → Option D
 | .add => some (.int k (k.wrap (x + y)))
 | .sub => some (.int k (k.wrap (x - y)))
 | .mul => some (.int k (k.wrap (x * y)))
 | .quo => if y = 0 then none else some (.int k (k.wrap (x.tdiv y)))
 | .rem => if y = 0 then none else some (.int k (x.tmod y))
 | .and => some (.int k (k.wrap (BitVec.ofInt k.bits x &&& BitVec.ofInt k.bits y).toNat))
 | .or => some (.int k (k.wrap (BitVec.ofInt k.bits x ||| BitVec.ofInt k.bits y).toNat))
 | .xor => some (.int k (k.wrap (BitVec.ofInt k.bits x ^^^ BitVec.ofInt k.bits y).toNat))
 | .andNot => some (.int k (k.wrap (BitVec.ofInt k.bits x &&& ~~~(BitVec.ofInt k.bits y)).toNat))
 | .eql => some (.bool (x == y))
 | .neq => some (.bool (x != y))
 | .lss => some (.bool (decide (x < y)))
 | .leq => some (.bool (decide (x ≤ y)))
 | .gtr => some (.bool (decide (x > y)))
 | .geq => some (.bool (decide (x ≥ y)))
 | .shl => none
 | .shr => none
def zdd : Nat := 140737488355328
def zKY (x y : List UInt8) : BinOp → Option D
 | .add => bnd (ok (decide (x.length + y.length ≤ zdd))) fun _ => some (.str (x ++ y))
 | .eql => some (.bool (x == y))
 | .neq => some (.bool !(x == y))
 | .lss => some (.bool (zda x y))
 | .leq => some (.bool (zda x y || x == y))
 | .gtr => some (.bool !(zda x y || x == y))
 | .geq => some (.bool !(zda x y))
 | _ => none
def zoi (k k' : IntKind) (x y : Int) : BinOp → Option D
 | .shl => if y < 0 then none else some (.int k (k.wrap (x * 2 ^ min y.toNat k.bits)))
 | .shr => if y < 0 then none else some (.int k (x.fdiv (2 ^ min y.toNat k.bits)))
 | op => if k = k' then zBn k x y op else none
def zGq (P : Program) (t : TypeId) (c : Bool) (x y : D) : BinOp → Option D
 | .eql => bnd (deq P t c x y) fun b => some (.bool b)
 | .neq => bnd (deq P t c x y) fun b => some (.bool !b)
 | _ => none
def zGw (P : Program) (op : BinOp) (t : TypeId) (c : Bool) : D → D → Option D
 | .int k a, .int k' b => zoi k k' a b op
 | .str a, .str b => zKY a b op
 | x, y => zGq P t c x y op
def dun : UnOp → D → Option D
 | .neg, .int k n => some (.int k (k.wrap (0 - n)))
 | .xor, .int k n => some (.int k (k.wrap (BitVec.ofInt k.bits (if k.signed then -1 else k.max) ^^^ BitVec.ofInt k.bits n).toNat))
 | .not, .bool b => some (.bool !b)
 | _, _ => none
def zBr (P : Program) (f : Nat) : D → TK → Option D
 | .agg cs, .struct fs => bnd fs[f]? fun p => bnd (zd1 P p.1) fun ti => part ti cs p.2
 | _, _ => none
def zGp (P : Program) (t : TypeId) (x : D) (f : Nat) : Option D := bnd (kOf P t) (zBr P f x)
def zx4 (P : Program) (n : Int) : D → TK → Option D
 | .str s, .str => bnd (ok (decide (0 ≤ n))) fun _ => bnd s[n.toNat]? fun b => some (.int .u8 b.toNat)
 | .agg cs, .array len e => bnd (zd1 P e) fun ti => bnd (ok (decide (0 ≤ n) && decide (n < len))) fun _ => part ti cs (n.toNat * ti.size)
 | _, _ => none
def zGo (P : Program) (t : TypeId) (x : D) : D → Option D
 | .int _ n => bnd (kOf P t) (zx4 P n x)
 | _ => none
def bound (dflt top : Nat) : Option D → Option Nat
 | none => some dflt
 | some (.int _ n) => bnd (ok (decide (0 ≤ n) && decide (n ≤ top))) fun _ => some n.toNat
 | some _ => none
def zjv (place : Nat → Option (Nat × Nat)) (cells : List D) : List (Nat × D) → Option (List D)
 | [] => some cells
 | p :: rest => bnd (place p.1) fun q =>
     bnd (ok (decide ((cellsOf p.2).length = q.2) && decide (q.1 + q.2 ≤ cells.length) && zct (cellsOf p.2))) fun _ => zjv place (put cells q.1 (cellsOf p.2)) rest
def zkk (P : Program) (fs : List (TypeId × Nat)) (i : Nat) : Option (Nat × Nat) := bnd fs[i]? fun p => bnd (zd1 P p.1) fun ti => some (p.2, ti.size)
def zBv (P : Program) (parts : List (Nat × D)) (z : List D) : TK → Option D
 | .struct fs => bnd (zjv (zkk P fs) z parts) fun l => some (.agg l)
 | .array _ e => bnd (zd1 P e) fun ti => bnd (zjv (fun i => some (i * ti.size, ti.size)) z parts) fun l => some (.agg l)
 | _ => none
def zGv (P : Program) (t : TypeId) (parts : List (Nat × D)) : Option D := bnd (zd1 P t) fun ti => zBv P parts ti.zero ti.kind
def zGI : Row → Option UInt8
 | [.int .u8 n] => some (UInt8.ofNat n.toNat)
 | _ => none
def zk6 : List Row → Option (List UInt8)
 | [] => some []
 | r :: l => bnd (zGI r) fun b => bnd (zk6 l) fun bs => some (b :: bs)
def zi0 (b : UInt8) : Row := [.int .u8 b.toNat]
def zRL : D → D → Option D
 | .int k a, .int k' b => if k = k' then some (.int k (if b < a then b else a)) else none
 | _, _ => none
def zRM : D → D → Option D
 | .int k a, .int k' b => if k = k' then some (.int k (if b > a then b else a)) else none
 | _, _ => none
def zE4 (f : D → D → Option D) : D → List D → Option D
 | x, [] => some x
 | x, y :: r => bnd (f x y) fun z => zE4 f z r
end Go.Ev
namespace Go.Ev
structure St where
 env : Env
 mem : Mem
inductive Ex where
 | normal | ret | exit (id : Nat)
structure Res where
 val : D
 args : List Blk
 esc : List Blk
structure Cfg where
 P : Program
 prim : FuncId → Option (List D → Option D)
 byRef : FuncId → Bool
 fine : FuncId → Bool
def zck : Option Blk → Nat
 | some b => b.gen + 1
 | none => 0
structure RB where
 fz : Bool
 cl : Bool
 sz : Nat
 rs : List Row
def zDO (g : Nat) : Option Blk → M RB
 | some (.rows g' fz cl sz rs) => do
   M.guard (decide (g' = g))
   pure ⟨fz, cl, sz, rs⟩
 | _ => .fail
def zju (b : Nm) (g : Nat) : M RB := do
 let o ← M.peek b
 zDO g o
def zl2 (b : Nm) (sz : Nat) (rs : List Row) (cl : Bool) : M (Nat × Ups) := do
 let o ← M.peek b
 pure (zck o, [(b, .rows (zck o) false cl sz rs)])
def zfF {α : Type} (f : α → M (α × List Nm)) : List α → M (List α × List Nm)
 | [] => pure ([], [])
 | d :: r => do
   let p ← f d
   let q ← zfF f r
   pure (p.1 :: q.1, p.2 ++ q.2)
def ziH : Nat → D → M (D × List Nm)
 | n + 1, .own b g off len => do
   let k ← zju b g
   M.guard (decide (off + len ≤ k.rs.length))
   if k.cl then pure (.sl .any (cut k.rs off len), [b])
   else do
    let p ← zfF (zfF (ziH n)) (cut k.rs off len)
    M.guard (zga p.1)
    pure (.sl .any p.1, b :: p.2)
 | n + 1, .agg cs => do
   let p ← zfF (ziH n) cs
   pure (.agg p.1, p.2)
 | n + 1, .tup cs => do
   let p ← zfF (ziH n) cs
   pure (.tup p.1, p.2)
 | 0, .own b g off len => pure (.own b g off len, [])
 | 0, .agg cs => pure (.agg cs, [])
 | 0, .tup cs => pure (.tup cs, [])
 | _, .bool b => pure (.bool b, [])
 | _, .int k n => pure (.int k n, [])
 | _, .str s => pure (.str s, [])
 | _, .nilp => pure (.nilp, [])
 | _, .ptr b g r o => pure (.ptr b g r o, [])
 | _, .eptr r o => pure (.eptr r o, [])
 | _, .sl f r => pure (.sl f r, [])
 | _, .nilm => pure (.nilm, [])
 | _, .map b g => pure (.map b g, [])
 | _, .iter b g => pure (.iter b g, [])
 | _, .fn f a b => pure (.fn f a b, [])
 | _, .nilf => pure (.nilf, [])
 | _, .iface t v => pure (.iface t v, [])
 | _, .nili => pure (.nili, [])
 | _, .unk => pure (.unk, [])
def zz6 (b : Nm) : Option Blk → M (Nm × Blk)
 | some (.rows g _ cl sz rs) => pure (b, .rows g true cl sz rs)
 | _ => .fail
def zhz : List Nm → M Ups
 | [] => pure []
 | b :: l => do
   let o ← M.peek b
   let u ← zz6 b o
   let us ← zhz l
   pure (u :: us)
def zqO (size : Nat) (rs : List Row) : Bool := rs.all fun r => r.length == size
def zGx (P : Program) (T : Nat) (t : TypeId) : M (D × Ups) := do
 let ti ← M.lift (zd1 P t)
 M.guard (decide (0 < ti.size) && decide (ti.zero.length = ti.size) && zct ti.zero)
 let p ← zl2 (.loc T 0) ti.size [ti.zero] (zbb ti.zero)
 pure (.ptr (.loc T 0) p.1 0 0, p.2)
def zRR (P : Program) (T : Nat) (t : TypeId) (x : D) : M (D × Ups) := do
 let ti ← M.lift (zd1 P t)
 M.guard (decide (0 < ti.size) && decide ((cellsOf x).length = ti.size) && zct (cellsOf x))
 let p ← zl2 (.loc T 0) ti.size [cellsOf x] (zbb (cellsOf x))
 pure (.ptr (.loc T 0) p.1 0 0, p.2)
def zGn (ti : TI) : D → M D
 | .ptr b g r o => do
   let k ← zju b g
   let row ← M.lift k.rs[r]?
   M.lift (part ti row o)
 | .eptr row o => M.lift (part ti row o)
 | _ => .fail
def zKa (P : Program) (t : TypeId) (d : D) : M D := do
 let ti ← M.lift (zd1 P t)
 zGn ti d
def zE8 (ti : TI) (x : D) : D → M Ups
 | .ptr b g r o => do
   let k ← zju b g
   let row ← M.lift k.rs[r]?
   M.guard (!k.fz && decide ((cellsOf x).length = ti.size) && zct (cellsOf x) && decide (o + ti.size ≤ row.length))
   pure [(b, .rows g k.fz (k.cl && zbb (cellsOf x)) k.sz (k.rs.set r (put row o (cellsOf x))))]
 | _ => .fail
def zGk (P : Program) (t : TypeId) (d x : D) : M Ups := do
 let ti ← M.lift (zd1 P t)
 zE8 ti x d
def zAp (n : Nat) : D → Option D
 | .ptr b g r o => some (.ptr b g r (o + n))
 | .eptr row o => some (.eptr row (o + n))
 | _ => none
def zpd (P : Program) (d : D) (f : Nat) : TK → Option D
 | .struct fs => bnd fs[f]? fun p => bnd (zd1 P p.1) fun ti => bnd (ok (decide (0 < ti.size))) fun _ => zAp p.2 d
 | _ => none
def zrV (P : Program) (t : TypeId) (d : D) (f : Nat) : Option D := bnd (kOf P t) (zpd P d f)
def zoj (ti : TI) (n : Int) : D → M D
 | .sl _ rs => do
   M.guard (decide (0 ≤ n))
   let row ← M.lift rs[n.toNat]?
   M.guard (decide (row.length = ti.size))
   pure (.eptr row 0)
 | .own b g off len => do
   M.guard (decide (0 ≤ n) && decide (n < len))
   let k ← zju b g
   M.guard (decide (k.sz = ti.size))
   pure (.ptr b g (off + n.toNat) 0)
 | _ => .fail
def zma (P : Program) (n : Int) (d : D) : TK → M D
 | .slice e => do
   let ti ← M.lift (zd1 P e)
   zoj ti n d
 | .array len e => do
   let ti ← M.lift (zd1 P e)
   M.guard (decide (0 ≤ n) && decide (n < len) && decide (0 < ti.size))
   M.lift (zAp (n.toNat * ti.size) d)
 | _ => .fail
def zrU (P : Program) (t : TypeId) (d : D) : D → M D
 | .int _ n => do
   let k ← M.lift (kOf P t)
   zma P n d k
 | _ => .fail
def zk4 (f : Fl) (mx : Bool) : Fl :=
 match f, mx with
 | .nil, _ => .nil
 | .any, _ => .any
 | .full, true => .full
 | .full, false => .any
def zhq (P : Program) (lo hi mx : Option D) : D → TK → M D
 | .str s, .str => do
   M.guard mx.isNone
   let h ← M.lift (bound s.length s.length hi)
   let l ← M.lift (bound 0 h lo)
   pure (.str (cut s l (h - l)))
 | .sl f rs, .slice e => do
   let ti ← M.lift (zd1 P e)
   let m ← M.lift (bound rs.length rs.length mx)
   let h ← M.lift (bound (if mx.isSome then m + 1 else rs.length) m hi)
   M.guard (decide (h ≤ m))
   let l ← M.lift (bound 0 h lo)
   M.guard (decide (l = 0) || zqO ti.size rs)
   pure (.sl (if mx.isSome && f != .nil then zk4 .full (h == m) else zk4 f (h == m)) (cut rs l (h - l)))
 | .own b g off len, .slice e => do
   M.guard mx.isNone
   let ti ← M.lift (zd1 P e)
   let h ← M.lift (bound len len hi)
   let l ← M.lift (bound 0 h lo)
   let k ← zju b g
   M.guard (decide (k.sz = ti.size))
   pure (.own b g (off + l) (h - l))
 | _, _ => .fail
def zGl (P : Program) (t : TypeId) (x : D) (lo hi mx : Option D) : M D := do
 let k ← M.lift (kOf P t)
 zhq P lo hi mx x k
def zoL : D → M (List Row × List Nm × Bool)
 | .sl _ rs => pure (rs, [], true)
 | .str s => pure (s.map zi0, [], true)
 | .own b g off len => do
   let k ← zju b g
   M.guard (decide (off + len ≤ k.rs.length))
   if k.cl then pure (cut k.rs off len, [], true)
   else do
    let p ← zfF (zfF (ziH 8)) (cut k.rs off len)
    pure (p.1, p.2, zga p.1)
 | _ => .fail
def zkD : TK → Option TypeId
 | .slice e => some e
 | _ => none
def zqK : TK → Bool
 | .slice _ | .str => true
 | _ => false
def zub (T : Nat) (ti : TI) (new : List Row) (l : List Nm) (st : Bool) : D → M (D × Ups)
 | .own b g off len => do
   let fz ← zhz l
   let k ← zju b g
   M.guard (!k.fz && decide (off + len ≤ k.rs.length) && decide (k.sz = ti.size) && decide ((len + new.length) * ti.bytes ≤ zdd) && !(l.contains b))
   pure (.own b (g + 1) 0 (len + new.length), fz ++ [(b, .rows (g + 1) false (k.cl && st) k.sz (cut k.rs off len ++ new))])
 | .sl f rs => do
   M.guard (f != .any && zqO ti.size rs)
   if new.isEmpty then pure (.sl f rs, [])
   else do
    let fz ← zhz l
    M.guard (decide ((rs.length + new.length) * ti.bytes ≤ zdd) && !(l.contains (.loc T 0)))
    let p ← zl2 (.loc T 0) ti.size (rs ++ new) st
    pure (.own (.loc T 0) p.1 0 (rs.length + new.length), fz ++ p.2)
 | _ => .fail
def zk3 : TK → Bool
 | .int _ => true
 | _ => false
def zBx (T : Nat) (ti : TI) : D → D → M (D × Ups)
 | .sl f rs, .int _ n => do
   M.guard (f != .any && rs.isEmpty && decide (0 < n) && decide (n * ti.bytes ≤ (zdd : Int)) && decide (0 < ti.size) && decide (0 < ti.bytes) && decide (ti.zero.length = ti.size) && zct ti.zero)
   let p ← zl2 (.loc T 0) ti.size (List.replicate n.toNat ti.zero) (zbb ti.zero)
   pure (.own (.loc T 0) p.1 0 n.toNat, p.2)
 | _, _ => .fail
def zBy (P : Program) (T : Nat) (s x : D) : List TypeId → M (D × Ups)
 | [t, tx] => do
   let k ← M.lift (kOf P t)
   let e ← M.lift (zkD k)
   let ti ← M.lift (zd1 P e)
   let kx ← M.lift (kOf P tx)
   if zk3 kx then zBx T ti s x else do
   M.guard (zqK kx)
   let q ← zoL x
   M.guard (zqO ti.size q.1 && decide (0 < ti.size) && decide (0 < ti.bytes) && decide (ti.zero.length = ti.size) && zct ti.zero)
   zub T ti q.1 q.2.1 q.2.2 s
 | _ => .fail
def zJ9 (T : Nat) (ti : TI) : D → D → M (D × Ups)
 | .int _ l, .int _ c => do
   M.guard (decide (0 ≤ l) && decide (l ≤ c) && decide (ti.bytes * c ≤ 281474976710656) && decide (c ≤ 9223372036854775807) && decide (0 < ti.size) && decide (ti.zero.length = ti.size) && zct ti.zero)
   let p ← zl2 (.loc T 0) ti.size (List.replicate l.toNat ti.zero) (zbb ti.zero)
   pure (.own (.loc T 0) p.1 0 l.toNat, p.2)
 | _, _ => .fail
def zrT (P : Program) (T : Nat) (t : TypeId) (l c : D) : M (D × Ups) := do
 let k ← M.lift (kOf P t)
 let e ← M.lift (zkD k)
 let ti ← M.lift (zd1 P e)
 zJ9 T ti l c
def zrS (size : Nat) (rows : List Row) : List (Nat × D) → Option (List Row)
 | [] => some rows
 | p :: rest => bnd (ok (decide ((cellsOf p.2).length = size) && decide (p.1 < rows.length) && zct (cellsOf p.2))) fun _ => zrS size (rows.set p.1 (cellsOf p.2)) rest
def zEB (p : Nat × D) : M ((Nat × D) × List Nm) := do
 let q ← ziH 8 p.2
 pure ((p.1, q.1), q.2)
def zpf (P : Program) (T : Nat) (t : TypeId) (len : Nat) (parts : List (Nat × D)) : M (D × Ups) := do
 let k ← M.lift (kOf P t)
 let e ← M.lift (zkD k)
 let ti ← M.lift (zd1 P e)
 M.guard (decide (0 < ti.size) && decide (len * ti.size ≤ 16777216) && decide (ti.zero.length = ti.size) && zct ti.zero)
 let ps ← zfF zEB parts
 let rs ← M.lift (zrS ti.size (List.replicate len ti.zero) ps.1)
 let fz ← zhz ps.2
 M.guard (!(ps.2.contains (.loc T 0)))
 let p ← zl2 (.loc T 0) ti.size rs (zga rs)
 pure (.own (.loc T 0) p.1 0 len, fz ++ p.2)
def zKF (g : Nat) : Option Blk → M (Bool × List Ent × Nat)
 | some (.map g' cl es clock) => do
   M.guard (decide (g' = g))
   pure (cl, es, clock)
 | _ => .fail
def znx (b : Nm) (g : Nat) : M (Bool × List Ent × Nat) := do
 let o ← M.peek b
 zKF g o
def zBm : D → TK → M D
 | .str s, .str => pure (.int .i64 s.length)
 | .sl _ rs, .slice _ => pure (.int .i64 rs.length)
 | .own _ _ _ len, .slice _ => pure (.int .i64 len)
 | .nilm, .map _ _ => pure (.int .i64 0)
 | .map b g, .map _ _ => do
   let k ← znx b g
   pure (.int .i64 k.2.1.length)
 | _, .array n _ => pure (.int .i64 n)
 | _, _ => .fail
def zRN (P : Program) (x : D) : List TypeId → M D
 | [t] => do
   let k ← M.lift (kOf P t)
   zBm x k
 | _ => .fail
def zQt : D → TK → M D
 | .sl f rs, .slice _ => do
   M.guard (f != .any)
   pure (.int .i64 rs.length)
 | _, _ => .fail
def zTo (P : Program) (x : D) : List TypeId → M D
 | [t] => do
   let k ← M.lift (kOf P t)
   zQt x k
 | _ => .fail
def zMN : TK → Bool
 | .int .u8 => true
 | _ => false
def zs4 : D → M (List Row)
 | .sl _ rs => pure rs
 | .own b g off len => do
   let k ← zju b g
   M.guard (decide (off + len ≤ k.rs.length) && decide (k.sz = 1))
   pure (cut k.rs off len)
 | _ => .fail
def ziK (P : Program) (T : Nat) : D → TK → TK → M (D × Ups)
 | .int _ n, _, .int k => pure (.int k (k.wrap n), [])
 | .str s, _, .str => pure (.str s, [])
 | .str s, .str, .slice e => do
   let ke ← M.lift (kOf P e)
   M.guard (zMN ke)
   let p ← zl2 (.loc T 0) 1 (s.map zi0) true
   pure (.own (.loc T 0) p.1 0 s.length, p.2)
 | x, .slice e, .str => do
   let ke ← M.lift (kOf P e)
   M.guard (zMN ke)
   let rs ← zs4 x
   let bs ← M.lift (zk6 rs)
   pure (.str bs, [])
 | _, _, _ => .fail
def zw6 (P : Program) (T : Nat) (src dst : TypeId) (x : D) : M (D × Ups) := do
 let ks ← M.lift (kOf P src)
 let kd ← M.lift (kOf P dst)
 ziK P T x ks kd
def zke : D → D → Option Bool
 | .int j a, .int k b => if j = k then some (a == b) else none
 | .str a, .str b => some (a == b)
 | .bool a, .bool b => some (a == b)
 | _, _ => none
def zrb (k : D) : List Ent → Nat → Option (Option (Nat × D))
 | [], _ => some none
 | e :: es, i => bnd (zke k e.key) fun b => if b then some (some (i, e.val)) else zrb k es (i + 1)
def zoa : D → TK → Bool
 | .int k' _, .int k => decide (k = k')
 | .str _, .str => true
 | .bool _, .bool => true
 | _, _ => false
def zm2 : TK → Option (TypeId × TypeId)
 | .map k e => some (k, e)
 | _ => none
def zDc : Option D → Bool
 | none => true
 | some (.int _ _) => true
 | some _ => false
def zEQ (b : Nm) (mk : Nat → Blk) (v : Nat → D) : M (D × Ups) := do
 let o ← M.peek b
 pure (v (zck o), [(b, mk (zck o))])
def zw3 (P : Program) (T : Nat) (t : TypeId) (r : Option D) : M (D × Ups) := do
 let k ← M.lift (kOf P t)
 let _ ← M.lift (zm2 k)
 M.guard (zDc r)
 zEQ (.loc T 0) (fun g => .map g true [] 0) (fun g => .map (.loc T 0) g)
def zDl : D → M (List Ent)
 | .nilm => pure []
 | .map b g => do
   let k ← znx b g
   pure k.2.1
 | _ => .fail
def zF7 (z : D) : Option (Nat × D) → D
 | some p => p.2
 | none => z
def zBl (P : Program) (t : TypeId) (x k : D) (commaOk : Bool) : M D := do
 let kt ← M.lift (kOf P t)
 let q ← M.lift (zm2 kt)
 let ke ← M.lift (kOf P q.1)
 let ti ← M.lift (zd1 P q.2)
 M.guard (zoa k ke)
 let z ← M.lift (zHw ti.kind ti.zero)
 let es ← zDl x
 let r ← M.lift (zrb k es 0)
 pure (if commaOk then .tup [zF7 z r, .bool r.isSome] else zF7 z r)
def zFR (k v : D) (es : List Ent) (clock : Nat) : Option (Nat × D) → List Ent × Nat
 | some p => (es.modify p.1 fun e => ⟨k, v, e.born⟩, clock)
 | none => (es ++ [⟨k, v, clock⟩], clock + 1)
def zs0 (k v : D) : D → M Ups
 | .map b g => do
   let q ← znx b g
   let r ← M.lift (zrb k q.2.1 0)
   pure [(b, .map g (q.1 && zbb (cellsOf v)) (zFR k v q.2.1 q.2.2 r).1 (zFR k v q.2.1 q.2.2 r).2)]
 | _ => .fail
def zoh (P : Program) (t : TypeId) (x k v : D) : M Ups := do
 let kt ← M.lift (kOf P t)
 let q ← M.lift (zm2 kt)
 let ke ← M.lift (kOf P q.1)
 M.guard (zoa k ke)
 zs0 k v x
def zE9 (es : List Ent) : Option (Nat × D) → List Ent
 | some p => es.eraseIdx p.1
 | none => es
def zGs (k : D) : D → M Ups
 | .map b g => do
   let q ← znx b g
   let r ← M.lift (zrb k q.2.1 0)
   pure [(b, .map g q.1 (zE9 q.2.1 r) q.2.2)]
 | _ => .fail
def zNX (P : Program) (x k : D) : List TypeId → M Ups
 | t :: _ => do
   let kt ← M.lift (kOf P t)
   let q ← M.lift (zm2 kt)
   let ke ← M.lift (kOf P q.1)
   M.guard (zoa k ke)
   zGs k x
 | [] => .fail
def zx0 (T : Nat) : D → TK → M (D × Ups)
 | .str s, .str => zEQ (.loc T 0) (fun g => .siter g s 0) (fun g => .iter (.loc T 0) g)
 | .nilm, .map _ _ => zEQ (.loc T 0) (fun g => .miter g none 0 [] 0) (fun g => .iter (.loc T 0) g)
 | .map b g, .map _ _ => do
   let q ← znx b g
   zEQ (.loc T 0) (fun g' => .miter g' (some (b, g)) q.2.2 [] q.2.2) (fun g => .iter (.loc T 0) g)
 | _, _ => .fail
def zGm (P : Program) (T : Nat) (t : TypeId) (x : D) : M (D × Ups) := do
 let k ← M.lift (kOf P t)
 zx0 T x k
def zKW : D := .tup [.bool false]
def zHu (b : Nm) (g : Nat) : Option Blk → Bool → M (List (D × Ups))
 | some (.siter g' s pos), true => do
   M.guard (decide (g' = g))
   if pos < s.length then
    pure [(.tup [.bool true, .int .i64 pos, .int .i32 (Utf8.decode ⟨s.toArray⟩ pos).1], [(b, .siter g s (pos + (Utf8.decode ⟨s.toArray⟩ pos).2))])]
   else pure [(zKW, [])]
 | some (.miter g' none _ _ _), false => do
   M.guard (decide (g' = g))
   pure [(zKW, [])]
 | some (.miter g' (some m) since seen last), false => do
   M.guard (decide (g' = g))
   let q ← znx m.1 m.2
   M.guard (!(!seen.isEmpty && !q.2.1.isEmpty && q.2.1.all fun e => decide (e.born ≥ last)))
   let left := q.2.1.filter fun e => !seen.contains e.born
   let old := left.filter fun e => decide (e.born < since)
   let new := left.filter fun e => decide (e.born ≥ since)
   pure ((if old.isEmpty then [(zKW, [])] else []) ++
    (old ++ new).map fun e => (.tup [.bool true, e.key, e.val], [(b, .miter g (some m) since (seen ++ [e.born]) q.2.2)]))
 | _, _ => .fail
def zMa (isString : Bool) : D → M (List (D × Ups))
 | .iter b g => do
   let o ← M.peek b
   zHu b g o isString
 | _ => .fail
def zJ4 (g : Nat) : Option Blk → M D
 | some (.miter g' (some m) _ seen stepped) => do
   M.guard (decide (g' = g))
   let q ← znx m.1 m.2
   let stamp ← M.lift seen.getLast?
   M.guard (decide (q.2.2 = stepped))
   let e ← M.lift (q.2.1.find? fun e => e.born == stamp)
   pure (.tup [e.key, e.val])
 | _ => .fail
def zGr : D → M D
 | .iter b g => do
   let o ← M.peek b
   zJ4 g o
 | _ => .fail
def idx (b : Nm) : List Nm → Option Nat
 | [] => none
 | c :: l => if b = c then some 0 else bnd (idx b l) fun i => some (i + 1)
def zNL : Option Blk → M (List Nm)
 | some k => pure k.ids
 | none => .fail
def zAR : Nat → List Nm → List Nm → M (List Nm)
 | _, [], acc => pure acc
 | 0, _ :: _, _ => .fail
 | n + 1, b :: todo, acc =>
   if acc.contains b then zAR n todo acc
   else do
    let o ← M.peek b
    let l ← zNL o
    zAR n (l ++ todo) (acc ++ [b])
def rin (L : List Nm) (b : Nm) : Option (Nm × Nat) := bnd (idx b L) fun i => some (.arg i, 0)
def zIp (L : List Nm) (T : Nat) (sh : List Nat) : Nm → Option (Nm × Nat)
 | .arg i => bnd L[i]? fun b => some (b, 0)
 | .loc 0 j => bnd sh[j]? fun s => some (.loc T j, s)
 | .loc (_ + 1) _ => none
def zCQ : List Nm → M (List Blk)
 | [] => pure []
 | b :: l => do
   let o ← M.peek b
   let k ← M.lift o
   let ks ← zCQ l
   pure (k :: ks)
def zpb (rids : List Nm) (b : Nm) : Blk → Blk
 | .rows g fz cl sz rs => .rows g (fz || rids.contains b) cl sz rs
 | .map g cl es c => .map g cl es c
 | .siter g s p => .siter g s p
 | .miter g m i l h => .miter g m i l h
def zt5 (rids : List Nm) : List Nm → List Blk → List Blk
 | b :: l, k :: ks => zpb rids b k :: zt5 rids l ks
 | [], _ => []
 | _ :: _, [] => []
def zoW (ρ : Nm → Option (Nm × Nat)) : List Blk → Option (List Blk)
 | [] => some []
 | k :: l => bnd (zhk ρ 0 k) fun k' => bnd (zoW ρ l) fun l' => some (k' :: l')
def zzP (T : Nat) : Nat → List Blk → M (List Nat)
 | _, [] => pure []
 | j, _ :: l => do
   let o ← M.peek (.loc T j)
   let r ← zzP T (j + 1) l
   pure (zck o :: r)
def zmX (ρ : Nm → Option (Nm × Nat)) (T : Nat) : Nat → List Nat → List Blk → Option Ups
 | j, s :: sh, k :: l => bnd (zhk ρ s k) fun k' => bnd (zmX ρ T (j + 1) sh l) fun l' => some ((.loc T j, k') :: l')
 | _, [], _ => some []
 | _, _ :: _, [] => some []
def zlc : List Nm → List Blk → Ups
 | b :: l, k :: ks => (b, k) :: zlc l ks
 | [], _ => []
 | _ :: _, [] => []
def zA5 (T n : Nat) : Nm → Bool
 | .loc t j => !(t == T && Nat.blt j n)
 | .arg _ => true
def zLS (T n : Nat) : List Nm → Bool
 | [] => true
 | b :: l => zA5 T n b && zLS T n l
def ztK (byRef : Bool) (args : List D) : M (List D × List Nm) := if byRef then pure (args, []) else zfF (ziH 8) args
def zGu (call : List D → List Blk → Option Res) (T : Nat) (as : List D) (rids : List Nm) : M (D × Ups) := do
 let L ← zAR 64 (zq6 as) []
 let fz ← zhz rids
 let ks ← zCQ L
 let as' ← M.lift (zqf (rin L) as)
 let sub ← M.lift (zoW (rin L) (zt5 rids L ks))
 let r ← M.lift (call as' sub)
 M.guard (decide (r.args.length = L.length))
 M.guard (zLS T r.esc.length L)
 let sh ← zzP T 0 r.esc
 let v ← M.lift (ren (zIp L T sh) r.val)
 let back ← M.lift (zoW (zIp L T sh) r.args)
 let esc ← M.lift (zmX (zIp L T sh) T 0 sh r.esc)
 pure (v, (if L.isEmpty && (zwf r.val && r.esc.isEmpty) then [] else fz) ++ (zlc L back ++ esc))
def zGt (call : List D → List Blk → Option Res) (T : Nat) (q : List D × List Nm) : Option (List D → Option D) → M (D × Ups)
 | some p => do
   let _ ← zhz q.2
   let v ← M.lift (p q.1)
   pure (v, [])
 | none => zGu call T q.1 q.2
def zMd (C : Cfg) (call : FuncId → List D → List Blk → Option Res) (T : Nat) (f : FuncId) (args : List D) : M (D × Ups) := do
 let q ← ztK (C.byRef f) args
 zGt (call f) T q (C.prim f)
def one (x : M (D × Ups)) : M (List (D × Ups)) := do
 let r ← x
 pure [r]
def val (x : M D) : M (List (D × Ups)) := do
 let v ← x
 pure [(v, [])]
def zn2 : D := .tup []
def eff (x : M Ups) : M (List (D × Ups)) := do
 let us ← x
 pure [(zn2, us)]
def zm7 (P : Program) (T : Nat) (ts : List TypeId) : Builtin → List D → M (List (D × Ups))
 | .len, [x] => val (zRN P x ts)
 | .append, [s, x] => one (zBy P T s x ts)
 | .min, x :: r => val (M.lift (zE4 zRL x r))
 | .max, x :: r => val (M.lift (zE4 zRM x r))
 | .cap, [x] => val (zTo P x ts)
 | _, _ => .fail
def ziB : Operand → Bool
 | .const _ => true
 | _ => false
def zL9 (a b : D) : D → Option D
 | .bool t => some (if t then a else b)
 | _ => none
def zOy : D → Option D
 | .ptr b g r o => some (.ptr b g r o)
 | .eptr r o => some (.eptr r o)
 | .fn (.func f) a b => some (.fn (.func f) a b)
 | _ => none
def ziZ : TK → Bool
 | .iface => true
 | _ => false
def zw4 (i : Nat) : D → Option D
 | .tup ds => ds[i]?
 | _ => none
def zKj (C : Cfg) (call : FuncId → List D → List Blk → Option Res) (T : Nat) (args : List D) : D → M (List (D × Ups))
 | .fn (.func g) a b => one (zMd C call T g (a ++ (args ++ b)))
 | _ => .fail
def znz (C : Cfg) (call : FuncId → List D → List Blk → Option Res) (T : Nat) (ρ : Operand → D) (ts : List TypeId) (args : List D) : Callee → M (List (D × Ups))
 | .builtin b => zm7 C.P T ts b args
 | .value f => zKj C call T args (ρ f)
 | .invoke _ _ => .fail
def T0 : Option Nat → Nat
 | some t => t
 | none => 99999
def dop (C : Cfg) (call : FuncId → List D → List Blk → Option Res) (ρ : Operand → D) (dst : Option Nat) : Op → M (List (D × Ups))
 | .move x => pure [(ρ x, [])]
 | .assign x => pure [(ρ x, [])]
 | .pick c a b => val (M.lift (zL9 (ρ a) (ρ b) (ρ c)))
 | .alloc t => one (zGx C.P (T0 dst) t)
 | .box t x => one (zRR C.P (T0 dst) t (ρ x))
 | .build t ps => val (M.lift (zGv C.P t (ps.toList.map fun p => (p.1, ρ p.2))))
 | .buildSlice t len ps => one (zpf C.P (T0 dst) t len (ps.toList.map fun p => (p.1, ρ p.2)))
 | .load t a => val (zKa C.P t (ρ a))
 | .store t a x => eff (zGk C.P t (ρ a) (ρ x))
 | .nilCheck x => val (M.lift (zOy (ρ x)))
 | .binOp op t x y _ => val (M.lift (zGw C.P op t (ziB x || ziB y) (ρ x) (ρ y)))
 | .unOp op _ x => val (M.lift (dun op (ρ x)))
 | .convert s d x => one (zw6 C.P (T0 dst) s d (ρ x))
 | .makeInterface t x => do
   let k ← M.lift (kOf C.P t)
   M.guard (!(ziZ k))
   pure [(.iface t (ρ x), [])]
 | .makeFunc f a b => pure [(.fn f (a.toList.map ρ) (b.toList.map ρ), [])]
 | .makeMap t r => one (zw3 C.P (T0 dst) t (r.map ρ))
 | .makeSlice t l c => one (zrT C.P (T0 dst) t (ρ l) (ρ c))
 | .slice t x l h m => val (zGl C.P t (ρ x) (l.map ρ) (h.map ρ) (m.map ρ))
 | .fieldAddr t x f => val (M.lift (zrV C.P t (ρ x) f))
 | .field t x f => val (M.lift (zGp C.P t (ρ x) f))
 | .indexAddr t x i => val (zrU C.P t (ρ x) (ρ i))
 | .index t x i => val (M.lift (zGo C.P t (ρ x) (ρ i)))
 | .lookup t x i ok => val (zBl C.P t (ρ x) (ρ i) ok)
 | .mapUpdate t m k x => eff (zoh C.P t (ρ m) (ρ k) (ρ x))
 | .insert t m k x => eff (zoh C.P t (ρ m) (ρ k) (ρ x))
 | .range t x => one (zGm C.P (T0 dst) t (ρ x))
 | .next it s => zMa s (ρ it)
 | .entry it => val (zGr (ρ it))
 | .extract t i => val (M.lift (zw4 i (ρ t)))
 | .call c => znz C call (T0 dst) ρ c.argTypes.toList (c.args.toList.map ρ) c.callee
 | _ => .fail
def Env.put (e : Env) (v : D) : Option Nat → Env
 | some t => e.upd t v
 | none => e
def St.put (s : St) (dst : Option Nat) (r : D × Ups) : St := ⟨s.env.put r.1 dst, s.mem.upds r.2⟩
def zoF : Bool → D → Option Bool
 | true, .bool b => some b
 | false, .bool b => some !b
 | true, .tup [] => some false
 | false, .tup [] => some false
 | _, _ => none
def sel {α : Type} (a b : Option α) : Bool → Option α
 | true => a
 | false => b
def zkl (ops : Array Oper) (e : Env) : Option (Nat × Bool) → Option Bool
 | none => some true
 | some g => bnd (bnd ops[g.1]? Oper.dst) fun t => zoF g.2 (e t)
def zEz : Option Res → Option Res → Bool
 | some a, some b => znt a.val b.val && ztG a.args b.args && ztG a.esc b.esc
 | _, _ => false
def zyl : List (Option Res) → Option Res
 | [] => none
 | [r] => r
 | r :: q :: l => if zEz r (zyl (q :: l)) then r else none
def ways (k : D × Ups → Option Res) : List (D × Ups) → Option Res
 | [] => none
 | [r] => k r
 | r :: q :: l => zyl ((r :: q :: l).map k)
def zKZ (C : Cfg) (call : FuncId → List D → List Blk → Option Res) (ops : Array Oper) (k : St → Option Res) : List Oper → St → Option Res
 | [], s => k s
 | o :: rest, s =>
   bnd (zkl ops s.env o.guard) fun b =>
    sel (bnd ((dop C call (opd s.env) o.dst o.op).run s.mem []) fun p => ways (fun r => zKZ C call ops k rest (s.put o.dst r)) p.1)
     (zKZ C call ops k rest (s.put o.dst (zn2, []))) b
structure Trc where
 st : St
 rd : List Nm
 wr : List Nm
def zC0 (s : St) (dst : Option Nat) : List (D × Ups) × List Nm → Option Trc
 | ([r], l) => some ⟨s.put dst r, l, r.2.map (·.1)⟩
 | _ => none
def zt9 (C : Cfg) (call : FuncId → List D → List Blk → Option Res) (ops : Array Oper) (o : Oper) (s : St) : Option Trc :=
 bnd (zkl ops s.env o.guard) fun b =>
  sel (bnd ((dop C call (opd s.env) o.dst o.op).run s.mem []) (zC0 s o.dst)) (some ⟨s.put o.dst (zn2, []), [], []⟩) b
abbrev zCi := Nat × List Nm × List Nm
def zL8 (C : Cfg) (call : FuncId → List D → List Blk → Option Res) (ops : Array Oper) : Nat → List Oper → St → Option (St × List zCi)
 | _, [], s => some (s, [])
 | i, o :: rest, s => bnd (zt9 C call ops o s) fun t => bnd (zL8 C call ops (i + 1) rest t.st) fun q => some (q.1, (i, t.rd, t.wr) :: q.2)
def orl (a : Bool) (b : Unit → Bool) : Bool := a || b ()
def zxZ (ops : Array Oper) (j : Nat) : List Edge :=
 match ops[j]? with
 | some o => o.after.toList
 | none => []
def zrl : Ground → Bool
 | .textOnly _ => false
 | .gcOnly _ => false
 | .data => true
 | .chain => true
 | .guard => true
 | .phase => true
def zs6 (f : Nat → Bool) (j : Nat) : List Edge → Bool
 | [] => false
 | e :: l => orl (zrl e.ground && decide (e.on < j) && f e.on) fun _ => zs6 f j l
def zk2 (ops : Array Oper) (i : Nat) : Nat → Nat → Bool
 | 0, _ => false
 | n + 1, j => orl (zs6 (fun x => x == i) j (zxZ ops j)) fun _ => zs6 (fun x => zk2 ops i n x) j (zxZ ops j)
def zOA : List Nm → List Nm → Bool
 | [], _ => true
 | x :: l, b => !(b.contains x) && zOA l b
def zAn (x y : zCi) : Bool := zOA x.2.2 y.2.1 && (zOA x.2.2 y.2.2 && zOA y.2.2 x.2.1)
def zyh (ops : Array Oper) (x : zCi) : List zCi → Bool
 | [] => true
 | y :: l => orl (zAn x y) (fun _ => zk2 ops x.1 64 y.1) && zyh ops x l
def zMm (ops : Array Oper) : List zCi → Bool
 | [] => true
 | x :: l => zyh ops x l && zMm ops l
def zcj (body : (Ex → St → Option Res) → St → Option Res) (k : Ex → St → Option Res) : Nat → St → Option Res
 | 0, _ => none
 | n + 1, s => body (fun ex s' => match ex with
   | .normal => zcj body k n s'
   | e => k e s') s
def onB {α : Type} (a b : Option α) : D → Option α
 | .bool t => sel a b t
 | _ => none
def zbH (C : Cfg) (call : FuncId → List D → List Blk → Option Res) (n : Nat) : Code → (Ex → St → Option Res) → St → Option Res
 | .skip, k, s => k .normal s
 | .label _, k, s => k .normal s
 | .region _ ops draw, k, s =>
   sel (bnd (zL8 C call ops 0 ops.toList s) fun q => bnd (ok (zMm ops q.2)) fun _ => k .normal q.1) (zKZ C call ops (k .normal) ops.toList s) draw
 | .seq a b, k, s => zbH C call n a (fun ex s' => match ex with
   | .normal => zbH C call n b k s'
   | e => k e s') s
 | .cond c a b, k, s => onB (zbH C call n a k s) (zbH C call n b k s) (opd s.env c)
 | .block id c, k, s => zbH C call n c (fun ex s' => match ex with
   | .exit i => if i = id then k .normal s' else k (.exit i) s'
   | e => k e s') s
 | .loop c, k, s => zcj (zbH C call n c) k n s
 | .exit id, k, s => k (.exit id) s
 | .ret, k, s => k .ret s
 | _, _, _ => none
def zOd (args : List D) (t : Nat) : D := args.getD t zn2
def zsW (mem : List Blk) : Mem
 | .arg i => mem[i]?
 | .loc _ _ => none
def zzS (P : Program) (e : Env) : ResultVar → M D
 | .tmp t => pure (e t)
 | .cell a t => zKa P t (e a)
def zsU (P : Program) (e : Env) : List ResultVar → M (List D)
 | [] => pure []
 | r :: l => do
   let d ← zzS P e r
   let ds ← zsU P e l
   pure (d :: ds)
def zGR : List D → D
 | [d] => d
 | [] => .tup []
 | a :: b :: l => .tup (a :: b :: l)
def zD8 (na : Nat) (esc : List Nm) : Nm → Option (Nm × Nat)
 | .arg i => if i < na then some (.arg i, 0) else none
 | .loc t j => bnd (idx (.loc t j) esc) fun i => some (.loc 0 i, 0)
def zxT : Nm → Bool
 | .loc _ _ => true
 | .arg _ => false
def zpr (n : Nat) : List Nm := (List.range n).map .arg
def zFt : List Blk → List Nm
 | [] => []
 | k :: l => k.ids ++ zFt l
def zAP (byRef : Bool) (d : D) : M (D × List Nm) := if byRef then pure (d, []) else ziH 9 d
def zz7 (C : Cfg) (f : FuncId) (rs : List ResultVar) (na : Nat) (e : Env) : M Res := do
 let ds ← zsU C.P e rs
 let q ← zAP (C.byRef f) (zGR ds)
 let _ ← zhz q.2
 let ks ← zCQ (zpr na)
 let L ← zAR 64 (ids q.1 ++ zFt ks) []
 let es ← zCQ (L.filter zxT)
 let v' ← M.lift (ren (zD8 na (L.filter zxT)) q.1)
 let ks' ← M.lift (zoW (zD8 na (L.filter zxT)) (zt5 q.2 (zpr na) ks))
 let es' ← M.lift (zoW (zD8 na (L.filter zxT)) (zt5 q.2 (L.filter zxT) es))
 pure ⟨v', ks', es'⟩
def zOB (C : Cfg) (f : FuncId) (rs : List ResultVar) (na : Nat) : Ex → St → Option Res
 | .exit _, _ => none
 | .normal, s => bnd ((zz7 C f rs na s.env).run s.mem []) fun p => some p.1
 | .ret, s => bnd ((zz7 C f rs na s.env).run s.mem []) fun p => some p.1
def dfn (C : Cfg) : Nat → FuncId → List D → List Blk → Option Res
 | 0, _, _, _ => none
 | n + 1, f, args, mem => bnd C.P.funcs[f]? fun fn => bnd fn.body fun c => bnd (ok (C.fine f)) fun _ =>
     zbH C (dfn C n) n c (zOB C f fn.results.toList mem.length) ⟨zOd args, zsW mem⟩
end Go.Ev
namespace Go.Ev
@[go_sem] theorem Env.upd_at (e : Env) (t : Nat) (v : D) (x : Nat) : (e.upd t v) x = if x = t then v else e x := rfl
@[go_sem] theorem Mem.upd_at (m : Mem) (b c : Nm) (k : Blk) : (m.upd b k) c = if c = b then some k else m c := rfl
attribute [go_sem] Mem.upds St.put Env.put.eq_1 Env.put.eq_2 Blk.gen.eq_1 Blk.gen.eq_2 Blk.gen.eq_3 Blk.gen.eq_4 zck.eq_1 zck.eq_2 zNA.eq_1 zNA.eq_2 opd.eq_1 opd.eq_2 opd.eq_3 opd.eq_4 cellsOf.eq_1 cellsOf.eq_2 cellsOf.eq_3 cellsOf.eq_4 cellsOf.eq_5 cellsOf.eq_6 cellsOf.eq_7 cellsOf.eq_8 cellsOf.eq_9 cellsOf.eq_10 cellsOf.eq_11 cellsOf.eq_12 cellsOf.eq_13 cellsOf.eq_14 cellsOf.eq_15 cellsOf.eq_16 cellsOf.eq_17 cellsOf.eq_18 zHw zct cell.eq_1 cell.eq_2 cell.eq_3 cell.eq_4 cell.eq_5 cell.eq_6 cell.eq_7 cell.eq_8 cell.eq_9 cell.eq_10 cell.eq_11 cell.eq_12 cell.eq_13 cell.eq_14 cell.eq_15 cell.eq_16 cell.eq_17 cell.eq_18 zbb still.eq_1 still.eq_2 still.eq_3 still.eq_4 still.eq_5 still.eq_6 still.eq_7 still.eq_8 still.eq_9 still.eq_10 still.eq_11 still.eq_12 still.eq_13 still.eq_14 still.eq_15 still.eq_16 still.eq_17 still.eq_18 zga zwf zzc part
attribute [go_sem] ids zq6 zTg zTh Blk.ids ren zqf zOl zOn zhk zoW zmX
attribute [go_sem] ofV.eq_1 ofV.eq_2 ofV.eq_3 ofV.eq_4 ofV.eq_5 ofV.eq_6 ofV.eq_7 ofV.eq_8 ofV.eq_9 zqT.eq_1 zqT.eq_2 zqT.eq_3 zqT.eq_4 zqT.eq_5 zqT.eq_6 zqT.eq_7 zqT.eq_8 zo3 only.eq_1
attribute [go_sem] zAa.eq_1 zAa.eq_2 zAa.eq_3 zhW.eq_1 zhW.eq_2 zRP.eq_1 zx5.eq_1 zx5.eq_2 zx5.eq_3 zx5.eq_4 zx5.eq_5 zx5.eq_6 zx5.eq_7 zx5.eq_8 zx5.eq_9 zx5.eq_10 zx5.eq_11 zBn zKY.eq_1 zKY.eq_2 zKY.eq_3 zKY.eq_4 zKY.eq_5 zKY.eq_6 zKY.eq_7 zGq.eq_1 zGq.eq_2 dun.eq_1 dun.eq_2 dun.eq_3 zBr.eq_1 zGp zx4.eq_1 zx4.eq_2 zGo.eq_1 bound.eq_1 bound.eq_2 zjv zkk zBv.eq_1 zBv.eq_2 zGv zGI.eq_1 zk6 zRL.eq_1 zRM.eq_1 zE4
attribute [go_sem] zDO.eq_1 zju zl2 zfF ziH zz6.eq_1 zhz zGx zRR zGn.eq_1 zGn.eq_2 zKa zE8.eq_1 zGk zAp.eq_1 zAp.eq_2 zpd.eq_1 zrV zoj.eq_1 zoj.eq_2 zma.eq_1 zma.eq_2 zrU.eq_1
attribute [go_sem] zk4.eq_1 zk4.eq_2 zk4.eq_3 zk4.eq_4 zhq.eq_3 zGl zoL.eq_1 zoL.eq_2 zoL.eq_3 zkD.eq_1 zqK.eq_1 zqK.eq_2 zub.eq_1 zub.eq_2 zBy.eq_1 zk3.eq_1 zJ9.eq_1 zrT zrS zEB zpf zKF.eq_1 znx zBm.eq_1 zBm.eq_2 zBm.eq_3 zBm.eq_4 zBm.eq_5 zRN.eq_1 zMN.eq_1 zs4.eq_1 zs4.eq_2 ziK.eq_1 ziK.eq_2 ziK.eq_3 zw6
attribute [go_sem] zke.eq_1 zke.eq_2 zke.eq_3 zrb zoa.eq_1 zoa.eq_2 zoa.eq_3 zm2.eq_1 zDc.eq_1 zDc.eq_2 zDc.eq_3 zEQ zw3 zDl.eq_1 zDl.eq_2 zF7.eq_1 zF7.eq_2 zBl zFR.eq_1 zFR.eq_2 zs0.eq_1 zoh zE9.eq_1 zE9.eq_2 zGs.eq_1 zNX zx0.eq_1 zx0.eq_2 zx0.eq_3 zGm zKW zHu.eq_1 zHu.eq_2 zHu.eq_3 zMa.eq_1 zJ4.eq_1 zGr.eq_1
attribute [go_sem] idx zNL.eq_1 zNL.eq_2 zAR rin zIp.eq_1 zIp.eq_2 zIp.eq_3 zCQ zpb.eq_1 zpb.eq_2 zpb.eq_3 zpb.eq_4 zt5 zzP zA5.eq_1 zA5.eq_2 zLS zlc ztK zGu zGt.eq_1 zGt.eq_2 zMd one val zn2 eff zm7.eq_1 zm7.eq_2 zm7.eq_3 zm7.eq_4 zm7.eq_5 ziB.eq_1 zL9.eq_1 zOy.eq_1 zOy.eq_2 zOy.eq_3 ziZ.eq_1 zw4.eq_1 zKj.eq_1 znz.eq_1 znz.eq_2 znz.eq_3 T0.eq_1 T0.eq_2 dop.eq_1 dop.eq_2 dop.eq_3 dop.eq_4 dop.eq_5 dop.eq_6 dop.eq_7 dop.eq_8 dop.eq_9 dop.eq_10 dop.eq_11 dop.eq_12 dop.eq_13 dop.eq_14 dop.eq_15 dop.eq_16 dop.eq_17 dop.eq_18 dop.eq_19 dop.eq_20 dop.eq_21 dop.eq_22 dop.eq_23 dop.eq_24 dop.eq_25 dop.eq_26 dop.eq_27 dop.eq_28 dop.eq_29 dop.eq_30
attribute [go_sem] zoF.eq_1 zoF.eq_2 zoF.eq_3 zoF.eq_4 zkl.eq_1 zkl.eq_2 zC0.eq_1 zOA zAn zyh zMm zxZ zrl.eq_1 zrl.eq_2 zrl.eq_3 zrl.eq_4 zrl.eq_5 zrl.eq_6 zs6 zk2  zOd zsW.eq_1 zsW.eq_2 zzS.eq_1 zzS.eq_2 zsU zGR.eq_1 zGR.eq_2 zGR.eq_3 zD8.eq_1 zD8.eq_2 zxT.eq_1 zxT.eq_2 zpr zFt zAP zz7 zOB.eq_1 zOB.eq_2 zOB.eq_3 dfn zqO
@[go_sem] theorem zWy (k : IntKind) : TK.agg (.int k) = false := rfl
@[go_sem] theorem zWx  : TK.agg (.bool) = false := rfl
@[go_sem] theorem zWw  : TK.agg (.str) = false := rfl
@[go_sem] theorem zWv  : TK.agg (.ptr) = false := rfl
@[go_sem] theorem zWu (e : TypeId) : TK.agg (.slice e) = false := rfl
@[go_sem] theorem zWt (k e : TypeId) : TK.agg (.map k e) = false := rfl
@[go_sem] theorem zWs  : TK.agg (.func) = false := rfl
@[go_sem] theorem zWr  : TK.agg (.iface) = false := rfl
@[go_sem] theorem zWq  : TK.agg (.tuple) = false := rfl
@[go_sem] theorem zWp  : TK.agg (.other) = false := rfl
@[go_sem] theorem zTf  : zk3 (.bool) = false := rfl
@[go_sem] theorem zTe  : zk3 (.str) = false := rfl
@[go_sem] theorem zTd  : zk3 (.ptr) = false := rfl
@[go_sem] theorem zTc (e : TypeId) : zk3 (.slice e) = false := rfl
@[go_sem] theorem zTb (k e : TypeId) : zk3 (.map k e) = false := rfl
@[go_sem] theorem zTa  : zk3 (.func) = false := rfl
@[go_sem] theorem zS9  : zk3 (.iface) = false := rfl
@[go_sem] theorem zS8  : zk3 (.tuple) = false := rfl
@[go_sem] theorem zS7  : zk3 (.other) = false := rfl
@[go_sem] theorem zWn (fs : List (TypeId × Nat)) : TK.agg (.struct fs) = true := rfl
@[go_sem] theorem zWo (n : Nat) (e : TypeId) : TK.agg (.array n e) = true := rfl
@[go_sem] theorem zUR (k : IntKind) : ziZ (.int k) = false := rfl
@[go_sem] theorem zUQ  : ziZ (.bool) = false := rfl
@[go_sem] theorem zUP  : ziZ (.str) = false := rfl
@[go_sem] theorem zUO  : ziZ (.ptr) = false := rfl
@[go_sem] theorem zUN (e : TypeId) : ziZ (.slice e) = false := rfl
@[go_sem] theorem zUM (k e : TypeId) : ziZ (.map k e) = false := rfl
@[go_sem] theorem zUL  : ziZ (.func) = false := rfl
@[go_sem] theorem zUK  : ziZ (.tuple) = false := rfl
@[go_sem] theorem zUJ  : ziZ (.other) = false := rfl
@[go_sem] theorem zUH (fs : List (TypeId × Nat)) : ziZ (.struct fs) = false := rfl
@[go_sem] theorem zUI (n : Nat) (e : TypeId) : ziZ (.array n e) = false := rfl
@[go_sem] theorem zWa (t : Nat) : ziB (.tmp t) = false := rfl
@[go_sem] theorem zV9 (t : Nat) : ziB (.global t) = false := rfl
@[go_sem] theorem zV8 (t : Nat) : ziB (.func t) = false := rfl
@[go_sem] theorem zWl (P : Program) (t : TypeId) (c : Bool) (a b : Bool) : deq P t c (.bool a) (.bool b) = bnd (kOf P t) (zx5 c (.bool a) (.bool b)) := rfl
@[go_sem] theorem zU1 (P : Program) (op : BinOp) (t : TypeId) (c : Bool) (a b : Bool) : zGw P op t c (.bool a) (.bool b) = zGq P t c (.bool a) (.bool b) op := rfl
@[go_sem] theorem zWk (P : Program) (t : TypeId) (c : Bool)  : deq P t c (.nilp) (.nilp) = bnd (kOf P t) (zx5 c (.nilp) (.nilp)) := rfl
@[go_sem] theorem zU0 (P : Program) (op : BinOp) (t : TypeId) (c : Bool)  : zGw P op t c (.nilp) (.nilp) = zGq P t c (.nilp) (.nilp) op := rfl
@[go_sem] theorem zWj (P : Program) (t : TypeId) (c : Bool) (f f2 : Fl) (r r2 : List Row) : deq P t c (.sl f r) (.sl f2 r2) = bnd (kOf P t) (zx5 c (.sl f r) (.sl f2 r2)) := rfl
@[go_sem] theorem zUZ (P : Program) (op : BinOp) (t : TypeId) (c : Bool) (f f2 : Fl) (r r2 : List Row) : zGw P op t c (.sl f r) (.sl f2 r2) = zGq P t c (.sl f r) (.sl f2 r2) op := rfl
@[go_sem] theorem zWi (P : Program) (t : TypeId) (c : Bool) (b : Nm) (g o l : Nat) (f : Fl) (r : List Row) : deq P t c (.own b g o l) (.sl f r) = bnd (kOf P t) (zx5 c (.own b g o l) (.sl f r)) := rfl
@[go_sem] theorem zUY (P : Program) (op : BinOp) (t : TypeId) (c : Bool) (b : Nm) (g o l : Nat) (f : Fl) (r : List Row) : zGw P op t c (.own b g o l) (.sl f r) = zGq P t c (.own b g o l) (.sl f r) op := rfl
@[go_sem] theorem zWh (P : Program) (t : TypeId) (c : Bool)  : deq P t c (.nili) (.nili) = bnd (kOf P t) (zx5 c (.nili) (.nili)) := rfl
@[go_sem] theorem zUX (P : Program) (op : BinOp) (t : TypeId) (c : Bool)  : zGw P op t c (.nili) (.nili) = zGq P t c (.nili) (.nili) op := rfl
@[go_sem] theorem zWg (P : Program) (t : TypeId) (c : Bool) (t2 : TypeId) (v : D) : deq P t c (.iface t2 v) (.nili) = bnd (kOf P t) (zx5 c (.iface t2 v) (.nili)) := rfl
@[go_sem] theorem zUW (P : Program) (op : BinOp) (t : TypeId) (c : Bool) (t2 : TypeId) (v : D) : zGw P op t c (.iface t2 v) (.nili) = zGq P t c (.iface t2 v) (.nili) op := rfl
@[go_sem] theorem zWf (P : Program) (t : TypeId) (c : Bool) (t2 : TypeId) (v : D) : deq P t c (.nili) (.iface t2 v) = bnd (kOf P t) (zx5 c (.nili) (.iface t2 v)) := rfl
@[go_sem] theorem zUV (P : Program) (op : BinOp) (t : TypeId) (c : Bool) (t2 : TypeId) (v : D) : zGw P op t c (.nili) (.iface t2 v) = zGq P t c (.nili) (.iface t2 v) op := rfl
@[go_sem] theorem zWe (P : Program) (t : TypeId) (c : Bool) (xs ys : List D) : deq P t c (.agg xs) (.agg ys) = bnd (ok (zE5 P t)) fun _ => bnd (kOf P t) (zRP P xs ys) := rfl
@[go_sem] theorem zUU (P : Program) (op : BinOp) (t : TypeId) (c : Bool) (xs ys : List D) : zGw P op t c (.agg xs) (.agg ys) = zGq P t c (.agg xs) (.agg ys) op := rfl
attribute [go_sem] zGw.eq_1 zGw.eq_2 zoi.eq_1 zoi.eq_2
@[go_sem] theorem zQr (k k2 : IntKind) (x y : Int) : zoi k k2 x y .add = if k = k2 then zBn k x y .add else none := rfl
@[go_sem] theorem zQg (k k2 : IntKind) (x y : Int) : zoi k k2 x y .sub = if k = k2 then zBn k x y .sub else none := rfl
@[go_sem] theorem zQk (k k2 : IntKind) (x y : Int) : zoi k k2 x y .mul = if k = k2 then zBn k x y .mul else none := rfl
@[go_sem] theorem zQi (k k2 : IntKind) (x y : Int) : zoi k k2 x y .quo = if k = k2 then zBn k x y .quo else none := rfl
@[go_sem] theorem zQh (k k2 : IntKind) (x y : Int) : zoi k k2 x y .rem = if k = k2 then zBn k x y .rem else none := rfl
@[go_sem] theorem zQq (k k2 : IntKind) (x y : Int) : zoi k k2 x y .and = if k = k2 then zBn k x y .and else none := rfl
@[go_sem] theorem zRO (k k2 : IntKind) (x y : Int) : zoi k k2 x y .or = if k = k2 then zBn k x y .or else none := rfl
@[go_sem] theorem zQf (k k2 : IntKind) (x y : Int) : zoi k k2 x y .xor = if k = k2 then zBn k x y .xor else none := rfl
@[go_sem] theorem zMS (k k2 : IntKind) (x y : Int) : zoi k k2 x y .andNot = if k = k2 then zBn k x y .andNot else none := rfl
@[go_sem] theorem zQp (k k2 : IntKind) (x y : Int) : zoi k k2 x y .eql = if k = k2 then zBn k x y .eql else none := rfl
@[go_sem] theorem zQj (k k2 : IntKind) (x y : Int) : zoi k k2 x y .neq = if k = k2 then zBn k x y .neq else none := rfl
@[go_sem] theorem zQl (k k2 : IntKind) (x y : Int) : zoi k k2 x y .lss = if k = k2 then zBn k x y .lss else none := rfl
@[go_sem] theorem zQm (k k2 : IntKind) (x y : Int) : zoi k k2 x y .leq = if k = k2 then zBn k x y .leq else none := rfl
@[go_sem] theorem zQn (k k2 : IntKind) (x y : Int) : zoi k k2 x y .gtr = if k = k2 then zBn k x y .gtr else none := rfl
@[go_sem] theorem zQo (k k2 : IntKind) (x y : Int) : zoi k k2 x y .geq = if k = k2 then zBn k x y .geq else none := rfl
@[go_sem] theorem zMV (P : Program) (T : Nat) (f : Fl) (r : List Row) (e : TypeId) : ziK P T (.sl f r) (.slice e) .str = (do
  let ke ← M.lift (kOf P e)
  M.guard (zMN ke)
  let rs ← zs4 (.sl f r)
  let bs ← M.lift (zk6 rs)
  pure (.str bs, [])) := rfl
@[go_sem] theorem zMU (P : Program) (T : Nat) (b : Nm) (g o l : Nat) (e : TypeId) : ziK P T (.own b g o l) (.slice e) .str = (do
  let ke ← M.lift (kOf P e)
  M.guard (zMN ke)
  let rs ← zs4 (.own b g o l)
  let bs ← M.lift (zk6 rs)
  pure (.str bs, [])) := rfl
attribute [go_sem] List.length_cons List.length_nil List.getElem?_cons_zero List.getElem?_cons_succ List.getElem?_nil List.take_succ_cons List.take_zero List.take_nil List.drop_succ_cons List.drop_zero List.drop_nil List.nil_append List.cons_append List.append_nil List.map_cons List.map_nil List.isEmpty_cons List.isEmpty_nil List.set_cons_zero List.set_cons_succ List.range_succ List.range_zero List.getD_cons_zero List.getD_cons_succ List.filter_cons List.filter_nil List.all_cons List.all_nil List.contains_cons List.contains_nil List.replicate List.getLast?_singleton
attribute [go_sem] ge_iff_le gt_iff_lt decide_true decide_false Bool.not_true Bool.not_false Bool.true_and Bool.and_true Bool.false_and Bool.and_false Bool.true_or Bool.or_true Bool.false_or Bool.or_false Bool.not_not Option.map_some Option.map_none Option.bind_some Option.bind_none Option.isSome_some Option.isSome_none Option.isNone_some Option.isNone_none
attribute [go_sem] M.run_pure M.run_ret M.run_fail M.run_peek M.run_lift M.run_guard M.run_ite zJv zLR
@[go_sem] theorem zOz (body : (Ex → St → Option Res) → St → Option Res) (k : Ex → St → Option Res) (s : St) : zcj body k 0 s = none := rfl
structure Tok {α : Type} (a : α) : Type where
def zUu {α β : Type} (x : Option α) (f : α → Option β) (_ : Tok f) : Option β := bnd x f
@[go_sem ↓] theorem zWm {α β : Type} (x : Option α) (f : α → Option β) : bnd x f = zUu x f ⟨⟩ := rfl
@[go_sem] theorem zRy {α β : Type} (a : α) (f : α → Option β) (t : Tok f) : zUu (some a) f t = f a := rfl
@[go_sem] theorem zRz {α β : Type} (f : α → Option β) (t : Tok f) : zUu none f t = none := rfl
def zRF {α : Type} (a b : Option α) (_ : Tok (a, b)) (d : Bool) : Option α := sel a b d
@[go_sem ↓] theorem zVF {α : Type} (a b : Option α) (d : Bool) : sel a b d = zRF a b ⟨⟩ d := rfl
@[go_sem] theorem zPN {α : Type} (a b : Option α) (t : Tok (a, b)) : zRF a b t true = a := rfl
@[go_sem] theorem zOk {α : Type} (a b : Option α) (t : Tok (a, b)) : zRF a b t false = b := rfl
def zUE {α : Type} (a b : Option α) (_ : Tok (a, b)) (d : D) : Option α := onB a b d
@[go_sem ↓] theorem zVH {α : Type} (a b : Option α) (d : D) : onB a b d = zUE a b ⟨⟩ d := rfl
@[go_sem] theorem zPW {α : Type} (a b : Option α) (t : Tok (a, b)) (d : Bool) : zUE a b t (.bool d) = zRF a b ⟨⟩ d := rfl
def zNb (k : D × Ups → Option Res) (_ : Tok k) (l : List (D × Ups)) : Option Res := ways k l
@[go_sem ↓] theorem zUC (k : D × Ups → Option Res) (l : List (D × Ups)) : ways k l = zNb k ⟨⟩ l := rfl
@[go_sem] theorem zPE (k : D × Ups → Option Res) (t : Tok k) (r : D × Ups) : zNb k t [r] = k r := rfl
def zKb (body : (Ex → St → Option Res) → St → Option Res) (k : Ex → St → Option Res) (n : Nat) (_ : Tok (body, k, n)) (s : St) : Option Res := zcj body k n s
@[go_sem ↓] theorem zTl (body : (Ex → St → Option Res) → St → Option Res) (k : Ex → St → Option Res) (n : Nat) (s : St) : zcj body k n s = zKb body k n ⟨⟩ s := rfl
def zNV (C : Cfg) (call : FuncId → List D → List Blk → Option Res) (ops : Array Oper) (k : St → Option Res) (l : List Oper) (_ : Tok (C, call, ops, k, l)) (s : St) : Option Res := zKZ C call ops k l s
@[go_sem ↓] theorem zUT (C : Cfg) (call : FuncId → List D → List Blk → Option Res) (ops : Array Oper) (k : St → Option Res) (l : List Oper) (s : St) : zKZ C call ops k l s = zNV C call ops k l ⟨⟩ s := rfl
@[go_sem] theorem zQe (C : Cfg) (call : FuncId → List D → List Blk → Option Res) (ops : Array Oper) (k : St → Option Res) (t : Tok (C, call, ops, k, [])) (s : St) : zNV C call ops k [] t s = k s := rfl
@[go_sem] theorem zOx (C : Cfg) (call : FuncId → List D → List Blk → Option Res) (ops : Array Oper) (k : St → Option Res) (o : Oper) (l : List Oper) (t : Tok (C, call, ops, k, o :: l)) (s : St) : zNV C call ops k (o :: l) t s =
 bnd (zkl ops s.env o.guard) fun b =>
  sel (bnd ((dop C call (opd s.env) o.dst o.op).run s.mem []) fun p => ways (fun r => zKZ C call ops k l (s.put o.dst r)) p.1)
   (zKZ C call ops k l (s.put o.dst (zn2, []))) b := rfl
def zNT (C : Cfg) (call : FuncId → List D → List Blk → Option Res) (ops : Array Oper) (i : Nat) (l : List Oper) (_ : Tok (C, call, ops, i, l)) (s : St) : Option (St × List zCi) := zL8 C call ops i l s
@[go_sem ↓] theorem zUS (C : Cfg) (call : FuncId → List D → List Blk → Option Res) (ops : Array Oper) (i : Nat) (l : List Oper) (s : St) : zL8 C call ops i l s = zNT C call ops i l ⟨⟩ s := rfl
@[go_sem] theorem zQd (C : Cfg) (call : FuncId → List D → List Blk → Option Res) (ops : Array Oper) (i : Nat) (t : Tok (C, call, ops, i, [])) (s : St) : zNT C call ops i [] t s = some (s, []) := rfl
@[go_sem] theorem zOw (C : Cfg) (call : FuncId → List D → List Blk → Option Res) (ops : Array Oper) (i : Nat) (o : Oper) (l : List Oper) (t : Tok (C, call, ops, i, o :: l)) (s : St) : zNT C call ops i (o :: l) t s =
 bnd (bnd (zkl ops s.env o.guard) fun b =>
  sel (bnd ((dop C call (opd s.env) o.dst o.op).run s.mem []) (zC0 s o.dst)) (some ⟨s.put o.dst (zn2, []), [], []⟩) b)
  fun t => bnd (zL8 C call ops (i + 1) l t.st) fun q => some (q.1, (i, t.rd, t.wr) :: q.2) := rfl
def zrd (C : Cfg) (call : FuncId → List D → List Blk → Option Res) (n : Nat) (c : Code) (k : Ex → St → Option Res) (_ : Tok (C, call, n, c, k)) (s : St) : Option Res := zbH C call n c k s
@[go_sem ↓] theorem zTn (C : Cfg) (call : FuncId → List D → List Blk → Option Res) (n : Nat) (c : Code) (k : Ex → St → Option Res) (s : St) : zbH C call n c k s = zrd C call n c k ⟨⟩ s := rfl
section
variable (C : Cfg) (call : FuncId → List D → List Blk → Option Res) (n : Nat) (k : Ex → St → Option Res) (s : St)
@[go_sem] theorem zNY (t : Tok (C, call, n, Code.skip, k)) : zrd C call n .skip k t s = k .normal s := rfl
@[go_sem] theorem zMX (l : Nat) (t : Tok (C, call, n, Code.label l, k)) : zrd C call n (.label l) k t s = k .normal s := rfl
@[go_sem] theorem zMW (i : Nat) (l : List Oper) (t : Tok (C, call, n, Code.region i l.toArray false, k)) : zrd C call n (.region i l.toArray false) k t s = zKZ C call l.toArray (k .normal) l s := rfl
@[go_sem] theorem zN1 (i : Nat) (l : List Oper) (t : Tok (C, call, n, Code.region i l.toArray true, k)) : zrd C call n (.region i l.toArray true) k t s = bnd (zL8 C call l.toArray 0 l s) fun q => bnd (ok (zMm l.toArray q.2)) fun _ => k .normal q.1 := rfl
@[go_sem] theorem zOC (a b : Code) (t : Tok (C, call, n, Code.seq a b, k)) : zrd C call n (.seq a b) k t s = zbH C call n a (fun ex s' => match ex with
 | .normal => zbH C call n b k s'
 | e => k e s') s := rfl
@[go_sem] theorem zN2 (c : Operand) (a b : Code) (t : Tok (C, call, n, Code.cond c a b, k)) : zrd C call n (.cond c a b) k t s = onB (zbH C call n a k s) (zbH C call n b k s) (opd s.env c) := rfl
@[go_sem] theorem zMY (i : Nat) (a : Code) (t : Tok (C, call, n, Code.block i a, k)) : zrd C call n (.block i a) k t s = zbH C call n a (fun ex s' => match ex with
 | .exit j => if j = i then k .normal s' else k (.exit j) s'
 | e => k e s') s := rfl
@[go_sem] theorem zNZ (a : Code) (t : Tok (C, call, n, Code.loop a, k)) : zrd C call n (.loop a) k t s = zcj (zbH C call n a) k n s := rfl
@[go_sem] theorem zN0 (i : Nat) (t : Tok (C, call, n, Code.exit i, k)) : zrd C call n (.exit i) k t s = k (.exit i) s := rfl
@[go_sem] theorem zOD (t : Tok (C, call, n, Code.ret, k)) : zrd C call n .ret k t s = k .ret s := rfl
end
def zS1 (a : Bool) (b : Unit → Bool) (_ : Tok b) : Bool := orl a b
@[go_sem ↓] theorem zVG (a : Bool) (b : Unit → Bool) : orl a b = zS1 a b ⟨⟩ := rfl
@[go_sem] theorem zPT (b : Unit → Bool) (t : Tok b) : zS1 true b t = true := rfl
@[go_sem] theorem zOq (b : Unit → Bool) (t : Tok b) : zS1 false b t = b () := rfl
def zRA {α β : Type} (x : M α) (f : α → M β) (_ : Tok f) : M β := x >>= f
@[go_sem ↓] theorem zVa {α β : Type} (x : M α) (f : α → M β) : (x >>= f) = zRA x f ⟨⟩ := rfl
@[go_sem] theorem zPO {α β : Type} (m : Mem) (l : List Nm) (x : M α) (f : α → M β) (t : Tok f) : (zRA x f t).run m l = bnd (x.run m l) fun p => (f p.1).run m p.2 := M.run_bind m l x f
@[go_sem] theorem zTu {α : Type} (l : List α) : cut l 0 l.length = l := by simp [cut]
@[go_sem] theorem zTt {α : Type} (a b : Nat) : cut ([] : List α) a b = [] := by simp [cut]
@[go_sem] theorem zQx {α : Type} (a : α) (l : List α) (n : Nat) : cut (a :: l) 0 (n + 1) = a :: cut l 0 n := by
  simp only [cut, List.length_cons, List.drop_zero, List.take_succ_cons, true_and]
  by_cases h : n = l.length
  · simp [h]
  · rw [if_neg (by omega), if_neg h]
@[go_sem] theorem zRU {α : Type} (l : List α) (a : Nat) : cut l a 0 = [] := by
  unfold cut; split
  · rename_i h; exact List.eq_nil_of_length_eq_zero h.2.symm
  · simp
@[go_sem] theorem zRV {α : Type} (a : α) (l : List α) (k n : Nat) : cut (a :: l) (k + 1) n = (l.drop k).take n := by simp [cut]
@[go_sem] theorem zRH {α : Type} (a : α) (l new : List α) (k : Nat) : put (a :: l) (k + 1) new = a :: put l k new := by
  simp [put, Nat.add_right_comm]
@[go_sem] theorem zPR {α : Type} (a b : α) (l new : List α) : put (a :: l) 0 (b :: new) = b :: put l 0 new := by simp [put]
@[go_sem] theorem zPQ {α : Type} (l : List α) : put l 0 [] = l := by simp [put]
end Go.Ev
namespace Go.Ev
structure Sl (α : Type) where
 fl : Fl
 l : List α
abbrev Str := List UInt8
def Sl.nil {α : Type} : Sl α := ⟨.nil, []⟩
def Sl.of {α : Type} (l : List α) : Sl α := ⟨.any, l⟩
def cI (k : IntKind) (n : Int) : List D := [.int k n]
def cB (b : Bool) : List D := [.bool b]
def zrk (s : Str) : List D := [.str s]
def dSl {α : Type} (c : α → List D) (s : Sl α) : D := .sl s.fl (s.l.map c)
def cSl {α : Type} (c : α → List D) (s : Sl α) : List D := [dSl c s]
theorem zft (a b : List D) : zct (a ++ b) = (zct a && zct b) := by
 induction a with
 | nil => simp [zct]
 | cons x a ih => simp [zct, ih, Bool.and_assoc]
theorem zen (a b : List D) : zbb (a ++ b) = (zbb a && zbb b) := by
 induction a with
 | nil => simp [zbb]
 | cons x a ih => simp [zbb, ih, Bool.and_assoc]
theorem zhS (a b : List D) : zq6 (a ++ b) = zq6 a ++ zq6 b := by
 induction a with
 | nil => simp [zq6]
 | cons x a ih => simp [zq6, ih, List.append_assoc]
theorem zhL (ρ : Nm → Option (Nm × Nat)) (a b : List D) : zqf ρ (a ++ b) = (zqf ρ a).bind fun x => (zqf ρ b).map fun y => x ++ y := by
 induction a with
 | nil => simp [zqf]
 | cons x a ih =>
   simp only [List.cons_append, zqf, ih]
   cases ren ρ x <;> simp
   cases zqf ρ a <;> simp
   cases zqf ρ b <;> simp
theorem zv5 {d : D} (h : still d = true) : ∀ n, ziH n d = pure (d, []) := by
 cases d <;> simp_all [still] <;> intro n <;> cases n <;> rfl
theorem zhM {l : List D} {n : Nat} (h : zbb l = true) : zfF (ziH n) l = pure (l, []) := by
 induction l with
 | nil => rfl
 | cons d l ih =>
   simp only [zbb, Bool.and_eq_true] at h
   simp only [zfF, zv5 h.1, ih h.2]
   rfl
theorem zkH {α : Type} {l : List α} {n : Nat} (h : l.length = n) : cut l 0 n = l := by
 subst h; simp [cut]
@[go_sem] theorem zN3 {α : Type} (c : α → List D) (s : Sl α) : cellsOf (dSl c s) = [dSl c s] := rfl
@[go_sem] theorem zRT {α : Type} (c : α → List D) (s : Sl α) : cell (dSl c s) = true := rfl
@[go_sem] theorem zQu {α : Type} (c : α → List D) (s : Sl α) : still (dSl c s) = true := rfl
@[go_sem] theorem zTs {α : Type} (c : α → List D) (s : Sl α) : ids (dSl c s) = [] := rfl
@[go_sem] theorem zTp {α : Type} (ρ : Nm → Option (Nm × Nat)) (c : α → List D) (s : Sl α) : ren ρ (dSl c s) = some (dSl c s) := rfl
@[go_sem] theorem zQv {α : Type} (n : Nat) (c : α → List D) (s : Sl α) : ziH n (dSl c s) = pure (dSl c s, []) := zv5 rfl n
@[go_sem] theorem zTr {α : Type} (c : α → List D) (s : Sl α) (e : TypeId) : zBm (dSl c s) (.slice e) = pure (.int .i64 s.l.length) := by
  simp [dSl, zBm]
end Go.Ev
namespace Go.Ev
noncomputable def okP (p : Prop) : Option Unit := open Classical in if p then some () else none
theorem zS0 {a n : Nat} (h : a + 1 ≤ n) : ∃ m, n = m + 1 := ⟨n - 1, by omega⟩
theorem zag {p : Prop} {u : Unit} (h : okP p = some u) : p := by
 unfold okP at h; split at h
 · assumption
 · cases h
theorem zat {p : Prop} (h : p) : okP p = some () := by unfold okP; rw [if_pos h]
def ix {α : Type} (l : List α) (i : Int) : Option α := if 0 ≤ i then l[i.toNat]? else none
theorem zaI {α : Type} {l : List α} {i : Int} {y : α} (h : ix l i = some y) : decide (0 ≤ i) = true ∧ l[i.toNat]? = some y := by
 unfold ix at h; split at h
 · exact ⟨by simpa, h⟩
 · cases h
theorem zPY {α : Type} {l : List α} {i : Int} {y : α} (h : ix l i = some y) : decide (i < (l.length : Int)) = true := by
 obtain ⟨h1, h2⟩ := zaI h
 have := (List.getElem?_eq_some_iff.1 h2).1
 have := of_decide_eq_true h1
 simp; omega
theorem zax {α β : Type} {l : List α} {i : Nat} {y : α} (h : l[i]? = some y) (c : α → β) : (l.map c)[i]? = some (c y) := by
 rw [List.getElem?_map, h]; rfl
inductive Out (R S : Type) where
 | ret (r : R)
 | done (s : S)
def zhy {R S β : Type} (o : Option (Out R S)) (f : R → Option β) (g : S → Option β) : Option β :=
 match o with
 | some (.ret r) => f r
 | some (.done s) => g s
 | none => none
theorem zaz {R S β : Type} {o : Option (Out R S)} {f : R → Option β} {g : S → Option β} {b : β} (h : zhy o f g = some b) :
 (∃ r, o = some (.ret r) ∧ f r = some b) ∨ ∃ s, o = some (.done s) ∧ g s = some b := by
 match o, h with
 | some (.ret r), h => exact .inl ⟨r, rfl, h⟩
 | some (.done s), h => exact .inr ⟨s, rfl, h⟩
theorem zac {α : Type} {A B : Option α} {b : Bool} {r : α} (h : sel A B b = some r) : (b = true ∧ A = some r) ∨ (b = false ∧ B = some r) := by
 cases b
 · exact .inr ⟨rfl, h⟩
 · exact .inl ⟨rfl, h⟩
theorem zb2 {a b : Bool} (h : (a && b) = true) : a = true ∧ b = true := by simpa using h
theorem zbC {a b : Bool} (h : (a && b) = false) : a = false ∨ (a = true ∧ b = false) := by cases a <;> simp_all
theorem zbW {a b : Bool} (h : (a || b) = true) : a = true ∨ (a = false ∧ b = true) := by cases a <;> simp_all
theorem zaM {a b : Bool} (h : (a || b) = false) : a = false ∧ b = false := by simpa using h
theorem zaq {a : Bool} (h : (!a) = true) : a = false := by simpa using h
theorem zam {a : Bool} (h : (!a) = false) : a = true := by simpa using h
def Ev (C : Cfg) (f : FuncId) (args : List D) (d : D) : Prop := ∃ N, ∀ n, N ≤ n → dfn C n f args [] = some ⟨d, [], []⟩
def zci (d : D) (m : Mem) (T sz : Nat) (cells : List D) : Prop := ∃ g, d = .ptr (.loc T 0) g 0 0 ∧ m (.loc T 0) = some (.rows g false true sz [cells])
def zD2 (d : D) (m : Mem) (T sz : Nat) (cells : List D) : Prop := ∃ g, d = .ptr (.loc T 0) g 0 0 ∧ m (.loc T 0) = some (.rows g false false sz [cells])
theorem zau (body : (Ex → St → Option Res) → St → Option Res) (k : Ex → St → Option Res) (n : Nat) (s : St) : zcj body k (n + 1) s = body (fun ex s' => match ex with
 | .normal => zcj body k n s'
 | e => k e s') s := rfl
theorem zah {body : (Ex → St → Option Res) → St → Option Res} {k : Ex → St → Option Res} {n : Nat} {s : St} {t : Tok (body, k, n)} {R : Option Res} (h : zcj body k n s = R) : zKb body k n t s = R := h
def zPX (C : Cfg) (call : FuncId → List D → List Blk → Option Res) (n : Nat) (c : Code) (k : Ex → St → Option Res) (_ : Tok (C, call, n, c, k)) (s : St) : Option Res := zbH C call n c k s
theorem zgc {C : Cfg} {call : FuncId → List D → List Blk → Option Res} {n : Nat} {c : Code} {k : Ex → St → Option Res} {t : Tok (C, call, n, c, k)} {s : St} {R : Option Res} (h : zbH C call n c k s = R) : zPX C call n c k t s = R := h
theorem zeL (C : Cfg) (call : FuncId → List D → List Blk → Option Res) (n : Nat) (c : Code) : ∀ (k : Ex → St → Option Res) (s : St), zbH C call n c k s = zPX C call n c k ⟨⟩ s := fun _ _ => rfl
def zDA : Code → List Nat → Code
 | .seq a b, i :: p => zDA (if i = 0 then a else b) p
 | .cond _ a b, i :: p => zDA (if i = 0 then a else b) p
 | .block _ a, _ :: p => zDA a p
 | .loop a, _ :: p => zDA a p
 | c, _ => c
def zbq (f : Func) (p : List Nat) : Code := zDA (f.body.getD .skip) p
theorem zjp {α : Type} {l new : List α} {n : Nat} (h : l.length = n) (k : new.length = n) : put l 0 new = new := by
 unfold put; simp [h, k]
attribute [go_sem] cI cB zrk cSl List.length_map
attribute [go_sem] List.getElem?_toArray Nm.loc.injEq Nm.arg.injEq false_and and_false true_and and_true and_self List.elem_cons List.elem_nil beq_self_eq_true List.contains_cons Bool.true_beq Bool.false_beq ite_self Bool.false_eq_true
@[go_sem] theorem zUF (x y : Nm) : (x == y) = decide (x = y) := rfl
@[go_sem] theorem zVc (b : Bool) : (b == true) = b := by cases b <;> rfl
@[go_sem] theorem zVd (b : Bool) : (b == false) = !b := by cases b <;> rfl
@[go_sem] theorem zOt : (Fl.nil != Fl.any) = true := rfl
@[go_sem] theorem zNS : (Fl.full != Fl.any) = true := rfl
@[go_sem] theorem zOu : (Fl.any != Fl.any) = false := rfl
@[go_sem] theorem zU2 {α : Type} (c : α → List D) (f : Fl) (l : List α) : dSl c ⟨f, l⟩ = .sl f (l.map c) := rfl
@[go_sem] theorem zTq {α : Type} (c : α → List D) : dSl c Sl.nil = .sl .nil [] := rfl
@[go_sem] theorem zQw {α : Type} (ti : TI) (n : Int) (c : α → List D) (s : Sl α) : zoj ti n (dSl c s) = (do
 M.guard (decide (0 ≤ n))
 let row ← M.lift (s.l.map c)[n.toNat]?
 M.guard (decide (row.length = ti.size))
 pure (.eptr row 0)) := rfl
def s2b (s : Str) : List Int := s.map fun b => (b.toNat : Int)
def b2s (l : List Int) : Str := l.map fun n => UInt8.ofNat n.toNat
theorem zLv (s : Str) : s.map zi0 = (s2b s).map (cI .u8) := by simp [s2b, zi0, cI, Function.comp_def]
theorem zwm (l : List Int) : zk6 (l.map (cI .u8)) = some (b2s l) := by
 induction l with
 | nil => rfl
 | cons n l ih => simp only [List.map_cons, zk6, ih, b2s]; rfl
@[go_sem] theorem zSZ (n : Int) (l : List Int) : b2s (n :: l) = UInt8.ofNat n.toNat :: b2s l := rfl
@[go_sem] theorem zUv : b2s [] = [] := rfl
@[go_sem] theorem zMc (P : Program) (T : Nat) (s : Sl Int) (e : TypeId) : ziK P T (dSl (cI .u8) s) (.slice e) .str = (do
  let ke ← M.lift (kOf P e)
  M.guard (zMN ke)
  pure (.str (b2s s.l), [])) := by
  have h : ziK P T (dSl (cI .u8) s) (.slice e) .str = (do
   let ke ← M.lift (kOf P e)
   M.guard (zMN ke)
   let bs ← M.lift (zk6 (s.l.map (cI .u8)))
   pure (.str bs, [])) := rfl
  rw [h, zwm]; rfl
def zzO (s : Str) (lo hi : Option Int) : Option Str :=
 let h := hi.getD s.length
 let l := lo.getD 0
 if 0 ≤ h ∧ h ≤ s.length ∧ 0 ≤ l ∧ l ≤ h then some (cut s l.toNat (h.toNat - l.toNat)) else none
def zOj {α : Type} (s : Sl α) (lo hi : Option Int) : Option (Sl α) :=
 let h := hi.getD s.l.length
 let l := lo.getD 0
 if 0 ≤ h ∧ h ≤ s.l.length ∧ 0 ≤ l ∧ l ≤ h then some ⟨zk4 s.fl (h.toNat == s.l.length), cut s.l l.toNat (h.toNat - l.toNat)⟩ else none
theorem zN4 {α β : Type} (f : α → β) (l : List α) (a b : Nat) : cut (l.map f) a b = (cut l a b).map f := by
 unfold cut; simp only [List.length_map]; split
 · rfl
 · simp [List.map_take, List.map_drop]
theorem zG1 {α : Type} {c : α → List D} {n : Nat} (h : ∀ x, (c x).length = n) (l : List α) : zqO n (l.map c) = true := by
 simp [zqO, h]
def odI (i : Option Int) : Option D := i.map fun n => .int .i64 n
theorem zKw {d top : Nat} {k : IntKind} {n : Int} (h1 : 0 ≤ n) (h2 : n ≤ (top : Int)) : bound d top (some (.int k n)) = some n.toNat := by
 show bnd (ok (decide (0 ≤ n) && decide (n ≤ (top : Int)))) _ = _
 rw [decide_eq_true h1, decide_eq_true h2]; rfl
theorem zul {d top : Nat} {i : Option Int} (h1 : 0 ≤ i.getD d) (h2 : i.getD d ≤ (top : Int)) : bound d top (odI i) = some (i.getD d).toNat := by
 cases i with
 | none => simp [odI, bound]
 | some n => exact zKw h1 h2
theorem zkr {s : Str} {lo hi : Option Int} {r : Str} (h : zzO s lo hi = some r) (P : Program) : zhq P (odI lo) (odI hi) none (.str s) .str = pure (.str r) := by
 unfold zzO at h
 simp only at h
 split at h
 · rename_i hc
   obtain ⟨h1, h2, h3, h4⟩ := hc
   cases h
   have eh : bound s.length s.length (odI hi) = some (hi.getD s.length).toNat := zul h1 h2
   have el : bound 0 (hi.getD s.length).toNat (odI lo) = some (lo.getD 0).toNat := by
    have := zul (d := 0) (i := lo) (top := (hi.getD s.length).toNat) (by simpa using h3) (by simp only [Int.ofNat_eq_natCast, Int.natCast_zero]; omega)
    simpa using this
   show (M.lift (bound s.length s.length (odI hi)) >>= fun h => M.lift (bound 0 h (odI lo)) >>= fun l => pure (D.str (cut s l (h - l)))) = _
   rw [eh]
   show (M.lift (bound 0 (hi.getD s.length).toNat (odI lo)) >>= fun l => pure (D.str (cut s l ((hi.getD s.length).toNat - l)))) = _
   rw [el]; rfl
 · cases h
theorem zFP {α : Type} {c : α → List D} {s : Sl α} {lo hi : Option Int} {r : Sl α} (h : zOj s lo hi = some r) {P : Program} {e : TypeId} {ti : TI} (ht : zd1 P e = some ti) (hl : ∀ x, (c x).length = ti.size) :
 zhq P (odI lo) (odI hi) none (dSl c s) (.slice e) = pure (dSl c r) := by
 unfold zOj at h
 simp only at h
 split at h
 · rename_i hc
   obtain ⟨h1, h2, h3, h4⟩ := hc
   cases h
   have eh : bound (s.l.map c).length (s.l.map c).length (odI hi) = some (hi.getD s.l.length).toNat := by
    rw [List.length_map]; exact zul h1 h2
   have el : bound 0 (hi.getD s.l.length).toNat (odI lo) = some (lo.getD 0).toNat := by
    have := zul (d := 0) (i := lo) (top := (hi.getD s.l.length).toNat) (by simpa using h3) (by simp only [Int.ofNat_eq_natCast, Int.natCast_zero]; omega)
    simpa using this
   have hle : decide ((hi.getD s.l.length).toNat ≤ (s.l.map c).length) = true := decide_eq_true (by simp; omega)
   show (M.lift (zd1 P e) >>= fun ti => M.lift (bound (s.l.map c).length (s.l.map c).length (odI hi)) >>= fun h => M.guard (decide (h ≤ (s.l.map c).length)) >>= fun _ => M.lift (bound 0 h (odI lo)) >>= fun l =>
    M.guard (decide (l = 0) || zqO ti.size (s.l.map c)) >>= fun _ => pure (D.sl (zk4 s.fl (h == (s.l.map c).length)) (cut (s.l.map c) l (h - l)))) = _
   rw [ht, eh]
   show (M.guard (decide ((hi.getD s.l.length).toNat ≤ (s.l.map c).length)) >>= fun _ => M.lift (bound 0 (hi.getD s.l.length).toNat (odI lo)) >>= fun l =>
    M.guard (decide (l = 0) || zqO ti.size (s.l.map c)) >>= fun _ => pure (D.sl (zk4 s.fl ((hi.getD s.l.length).toNat == (s.l.map c).length)) (cut (s.l.map c) l ((hi.getD s.l.length).toNat - l)))) = _
   rw [hle, el]
   show (M.guard (decide ((lo.getD 0).toNat = 0) || zqO ti.size (s.l.map c)) >>= fun _ => pure (D.sl (zk4 s.fl ((hi.getD s.l.length).toNat == (s.l.map c).length)) (cut (s.l.map c) (lo.getD 0).toNat ((hi.getD s.l.length).toNat - (lo.getD 0).toNat)))) = _
   rw [zG1 hl, Bool.or_true, zN4, List.length_map]; rfl
 · cases h
@[go_sem] theorem zN8 {α : Type} {l : List α} {n : Nat} (h : l.length = n) : cut l 0 n = l := by subst h; simp [cut]
def Sl.out {α : Type} : List α → Sl α
 | [] => Sl.nil
 | a :: l => ⟨.any, a :: l⟩
@[go_sem] theorem Sl.out_nil {α : Type} : Sl.out ([] : List α) = Sl.nil := rfl
@[go_sem] theorem Sl.out_ne {α : Type} {l : List α} (h : (l = []) = False) : Sl.out l = ⟨.any, l⟩ := by
  cases l with
  | nil => simp at h
  | cons a l => rfl
@[simp] theorem Sl.out_l {α : Type} (l : List α) : (Sl.out l).l = l := by cases l <;> rfl
@[simp] theorem Sl.of_l {α : Type} (l : List α) : (Sl.of l).l = l := rfl
@[simp] theorem Sl.nil_l {α : Type} : (Sl.nil : Sl α).l = [] := rfl
def zuH {α : Type} (d : D) (m : Mem) (Ts : List Nat) (sz : Nat) (c : α → List D) (l : List α) : Prop :=
 (d = .sl .nil [] ∧ l = []) ∨ ∃ T, T ∈ Ts ∧ ∃ g, d = .own (.loc T 0) g 0 l.length ∧ m (.loc T 0) = some (.rows g false true sz (l.map c)) ∧ (l = []) = False
def zUz {α : Type} (d : D) (m : Mem) (T sz : Nat) (c : α → List D) (l : List α) : Prop :=
 ∃ g, d = .own (.loc T 0) g 0 l.length ∧ m (.loc T 0) = some (.rows g false true sz (l.map c))
def zFD {α : Type} (d : D) (m : Mem) (Ts : List Nat) (sz : Nat) (c : α → List D) (r : Sl α) : Prop :=
 d = dSl c r ∨ ∃ T, T ∈ Ts ∧ ∃ l, r = Sl.of l ∧ ∃ g, d = .own (.loc T 0) g 0 l.length ∧ m (.loc T 0) = some (.rows g false true sz (l.map c))
def ltn (a b : Nat) : Bool := decide (a < b)
theorem zNE {a b : Nat} (h : ltn a b = true) : a < b := of_decide_eq_true h
theorem zNF {a b : Nat} (h : ltn a b = false) : ¬ a < b := of_decide_eq_false h
def zyC (d : D) (m : Mem) (T : Nat) (s : Str) (pos : Nat) : Prop := ∃ g, d = .iter (.loc T 0) g ∧ m (.loc T 0) = some (.siter g s pos)
def zKL {α : Type} (e6 : D) (m : Mem) (T sz : Nat) (cells : D → List D) (Ts : List Nat) (esz : Nat) (c : α → List D) (l : List α) : Prop :=
 ∃ g cl d, e6 = .ptr (.loc T 0) g 0 0 ∧ m (.loc T 0) = some (.rows g false cl sz [cells d]) ∧ zuH d m Ts esz c l
def zGL {α : Type} (e6 : D) (m : Mem) (T sz : Nat) (cells : D → List D) (Ts : List Nat) (esz : Nat) (c : α → List D) (r : Sl α) : Prop :=
 ∃ g cl d, e6 = .ptr (.loc T 0) g 0 0 ∧ m (.loc T 0) = some (.rows g false cl sz [cells d]) ∧ zFD d m Ts esz c r
def zL6 {α : Type} (l : List α) (g : Nat) : D := open Classical in if l = [] then .sl .nil [] else .own (.loc 0 0) g 0 l.length
def zL7 {α : Type} (g sz : Nat) (c : α → List D) (l : List α) : List Blk := open Classical in if l = [] then [] else [.rows g false true sz (l.map c)]
@[go_sem] theorem zRG {α : Type} {l new : List α} (h : l.length = new.length) : put l 0 new = new := zjp h rfl
attribute [go_sem] Nat.zero_add Nat.add_zero Nat.le_refl eq_self zdd List.length_append List.append_eq_nil_iff List.map_append Sl.of zLv zwm
@[go_sem] theorem zM6 {α : Type} {c : α → List D} (h : ∀ x, zbb (c x) = true) (l : List α) : zga (l.map c) = true := by
  induction l with
  | nil => rfl
  | cons x l ih => simp only [List.map_cons, zga, h, ih]; rfl
end Go.Ev
set_option linter.unusedSimpArgs false
namespace Go.Ev
structure zbw where
 table : Int
 seq : Int
def zbw.setTable : zbw → Int → zbw
 | .mk _ x1, v => .mk v x1
def zbw.setSeq : zbw → Int → zbw
 | .mk x0 _, v => .mk x0 v
def zbw.zero : zbw := .mk 0 0
def zcI (x : zbw) : List D := ([(.int .i64 x.table)]) ++ ([(.int .i64 x.seq)])
theorem zav (x : zbw) : zcI x = ([(.int .i64 x.table)]) ++ ([(.int .i64 x.seq)]) := rfl
@[go_sem] theorem zbw.setTable_table (x : zbw) (v : Int) : (x.setTable v).table = v := by cases x; rfl
@[go_sem] theorem zbw.setTable_seq (x : zbw) (v : Int) : (x.setTable v).seq = x.seq := by cases x; rfl
@[go_sem] theorem zbw.setSeq_table (x : zbw) (v : Int) : (x.setSeq v).table = x.table := by cases x; rfl
@[go_sem] theorem zbw.setSeq_seq (x : zbw) (v : Int) : (x.setSeq v).seq = v := by cases x; rfl
@[go_sem] theorem zlP (x : zbw) : (zcI x).length = 2 := by simp [zav]
@[go_sem] theorem zsG (x : zbw) : zct (zcI x) = true := by simp [zav, zft, zct, cell, dSl]
@[go_sem] theorem zmi (x : zbw) : zbb (zcI x) = true := by simp [zav, zen, zbb, still, dSl]
@[go_sem] theorem zxV (x : zbw) : zq6 (zcI x) = [] := by simp [zav, zhS, zq6, ids, dSl]
@[go_sem] theorem zxz (ρ : Nm → Option (Nm × Nat)) (x : zbw) : zqf ρ (zcI x) = some (zcI x) := by simp [zav, zhL, zqf, ren, dSl]
@[go_sem] theorem zMD (n : Nat) (x : zbw) : zfF (ziH n) (zcI x) = pure (zcI x, []) := zhM (zmi x)
@[go_sem] theorem zbw.zero_table : zbw.zero.table = 0 := rfl
@[go_sem] theorem zbw.zero_seq : zbw.zero.seq = 0 := rfl
@[go_sem] theorem zNW (P : Program) (x y : zbw) (k : List (TypeId × Nat)) : zhW P k (zcI x) (zcI y) = zhW P k [(.int .i64 x.table), (.int .i64 x.seq)] [(.int .i64 y.table), (.int .i64 y.seq)] := rfl
@[go_sem] theorem zOE (x : zbw) : cut (zcI x) 0 2 = zcI x := zkH (zlP x)
@[go_sem] theorem zKl (x : zbw) : cut (zcI x) 0 1 = [(.int .i64 x.table)] := by
  simp [cut, zav]
@[go_sem] theorem zJe (x : zbw) (v : Int) : put (zcI x) 0 ([(.int .i64 v)]) = zcI (x.setTable v) := by
  simp [put, zav, zbw.setTable_table, zbw.setTable_seq]
@[go_sem] theorem zMf (x : zbw) : cut (zcI x) 1 1 = [(.int .i64 x.seq)] := by
  simp [cut, zav]
@[go_sem] theorem zLG (x : zbw) (v : Int) : put (zcI x) 1 ([(.int .i64 v)]) = zcI (x.setSeq v) := by
  simp [put, zav, zbw.setSeq_table, zbw.setSeq_seq]
@[go_sem] theorem zLH (x y : zbw) : put (zcI x) 0 (zcI y) = zcI y := zjp (zlP x) (zlP y)
structure Val where
 kind : Int
 int : Int
 text : Str
def Val.setKind : Val → Int → Val
 | .mk _ x1 x2, v => .mk v x1 x2
def Val.setInt : Val → Int → Val
 | .mk x0 _ x2, v => .mk x0 v x2
def Val.setText : Val → Str → Val
 | .mk x0 x1 _, v => .mk x0 x1 v
def Val.zero : Val := .mk 0 0 []
def zhj (x : Val) : List D := ([(.int .i64 x.kind)]) ++ ([(.int .i64 x.int)]) ++ ([(.str x.text)])
theorem zaT (x : Val) : zhj x = ([(.int .i64 x.kind)]) ++ ([(.int .i64 x.int)]) ++ ([(.str x.text)]) := rfl
@[go_sem] theorem Val.setKind_kind (x : Val) (v : Int) : (x.setKind v).kind = v := by cases x; rfl
@[go_sem] theorem Val.setKind_int (x : Val) (v : Int) : (x.setKind v).int = x.int := by cases x; rfl
@[go_sem] theorem Val.setKind_text (x : Val) (v : Int) : (x.setKind v).text = x.text := by cases x; rfl
@[go_sem] theorem Val.setInt_kind (x : Val) (v : Int) : (x.setInt v).kind = x.kind := by cases x; rfl
@[go_sem] theorem Val.setInt_int (x : Val) (v : Int) : (x.setInt v).int = v := by cases x; rfl
@[go_sem] theorem Val.setInt_text (x : Val) (v : Int) : (x.setInt v).text = x.text := by cases x; rfl
@[go_sem] theorem Val.setText_kind (x : Val) (v : Str) : (x.setText v).kind = x.kind := by cases x; rfl
@[go_sem] theorem Val.setText_int (x : Val) (v : Str) : (x.setText v).int = x.int := by cases x; rfl
@[go_sem] theorem Val.setText_text (x : Val) (v : Str) : (x.setText v).text = v := by cases x; rfl
@[go_sem] theorem zrQ (x : Val) : (zhj x).length = 3 := by simp [zaT]
@[go_sem] theorem zwo (x : Val) : zct (zhj x) = true := by simp [zaT, zft, zct, cell, dSl]
@[go_sem] theorem zpu (x : Val) : zbb (zhj x) = true := by simp [zaT, zen, zbb, still, dSl]
@[go_sem] theorem zDb (x : Val) : zq6 (zhj x) = [] := by simp [zaT, zhS, zq6, ids, dSl]
@[go_sem] theorem zCE (ρ : Nm → Option (Nm × Nat)) (x : Val) : zqf ρ (zhj x) = some (zhj x) := by simp [zaT, zhL, zqf, ren, dSl]
@[go_sem] theorem zOo (n : Nat) (x : Val) : zfF (ziH n) (zhj x) = pure (zhj x, []) := zhM (zpu x)
@[go_sem] theorem Val.zero_kind : Val.zero.kind = 0 := rfl
@[go_sem] theorem Val.zero_int : Val.zero.int = 0 := rfl
@[go_sem] theorem Val.zero_text : Val.zero.text = [] := rfl
@[go_sem] theorem zQs (P : Program) (x y : Val) (k : List (TypeId × Nat)) : zhW P k (zhj x) (zhj y) = zhW P k [(.int .i64 x.kind), (.int .i64 x.int), (.str x.text)] [(.int .i64 y.kind), (.int .i64 y.int), (.str y.text)] := rfl
@[go_sem] theorem zRW (x : Val) : cut (zhj x) 0 3 = zhj x := zkH (zrQ x)
@[go_sem] theorem zM1 (x : Val) : cut (zhj x) 0 1 = [(.int .i64 x.kind)] := by
  simp [cut, zaT]
@[go_sem] theorem zMF (x : Val) (v : Int) : put (zhj x) 0 ([(.int .i64 v)]) = zhj (x.setKind v) := by
  simp [put, zaT, Val.setKind_kind, Val.setKind_int, Val.setKind_text]
@[go_sem] theorem zN9 (x : Val) : cut (zhj x) 1 1 = [(.int .i64 x.int)] := by
  simp [cut, zaT]
@[go_sem] theorem zNq (x : Val) (v : Int) : put (zhj x) 1 ([(.int .i64 v)]) = zhj (x.setInt v) := by
  simp [put, zaT, Val.setInt_kind, Val.setInt_int, Val.setInt_text]
@[go_sem] theorem zM0 (x : Val) : cut (zhj x) 2 1 = [(.str x.text)] := by
  simp [cut, zaT]
@[go_sem] theorem zME (x : Val) (v : Str) : put (zhj x) 2 ([(.str v)]) = zhj (x.setText v) := by
  simp [put, zaT, Val.setText_kind, Val.setText_int, Val.setText_text]
@[go_sem] theorem zNr (x y : Val) : put (zhj x) 0 (zhj y) = zhj y := zjp (zrQ x) (zrQ y)
mutual
inductive zal where
 | mk (coeff : Int) (factors : (Sl zai))
inductive zai where
 | mk (atom : zan) (exp : Int)
inductive zan where
 | mk (kind : Int) (row : zbw) (args : (Sl (Sl zal))) (func : Int) (items : (Sl zad)) (op : Int) (bound : Val)
inductive zad where
 | mk (value : Val) (ann : (Sl zal))
end
def zal.coeff : zal → Int
 | .mk x _ => x
def zal.factors : zal → (Sl zai)
 | .mk _ x => x
def zai.atom : zai → zan
 | .mk x _ => x
def zai.exp : zai → Int
 | .mk _ x => x
def zan.kind : zan → Int
 | .mk x _ _ _ _ _ _ => x
def zan.row : zan → zbw
 | .mk _ x _ _ _ _ _ => x
def zan.args : zan → (Sl (Sl zal))
 | .mk _ _ x _ _ _ _ => x
def zan.func : zan → Int
 | .mk _ _ _ x _ _ _ => x
def zan.items : zan → (Sl zad)
 | .mk _ _ _ _ x _ _ => x
def zan.op : zan → Int
 | .mk _ _ _ _ _ x _ => x
def zan.bound : zan → Val
 | .mk _ _ _ _ _ _ x => x
def zad.value : zad → Val
 | .mk x _ => x
def zad.ann : zad → (Sl zal)
 | .mk _ x => x
def zal.setCoeff : zal → Int → zal
 | .mk _ x1, v => .mk v x1
def zal.setFactors : zal → (Sl zai) → zal
 | .mk x0 _, v => .mk x0 v
def zai.setAtom : zai → zan → zai
 | .mk _ x1, v => .mk v x1
def zai.setExp : zai → Int → zai
 | .mk x0 _, v => .mk x0 v
def zan.setKind : zan → Int → zan
 | .mk _ x1 x2 x3 x4 x5 x6, v => .mk v x1 x2 x3 x4 x5 x6
def zan.setRow : zan → zbw → zan
 | .mk x0 _ x2 x3 x4 x5 x6, v => .mk x0 v x2 x3 x4 x5 x6
def zan.setArgs : zan → (Sl (Sl zal)) → zan
 | .mk x0 x1 _ x3 x4 x5 x6, v => .mk x0 x1 v x3 x4 x5 x6
def zan.setFunc : zan → Int → zan
 | .mk x0 x1 x2 _ x4 x5 x6, v => .mk x0 x1 x2 v x4 x5 x6
def zan.setItems : zan → (Sl zad) → zan
 | .mk x0 x1 x2 x3 _ x5 x6, v => .mk x0 x1 x2 x3 v x5 x6
def zan.setOp : zan → Int → zan
 | .mk x0 x1 x2 x3 x4 _ x6, v => .mk x0 x1 x2 x3 x4 v x6
def zan.setBound : zan → Val → zan
 | .mk x0 x1 x2 x3 x4 x5 _, v => .mk x0 x1 x2 x3 x4 x5 v
def zad.setValue : zad → Val → zad
 | .mk _ x1, v => .mk v x1
def zad.setAnn : zad → (Sl zal) → zad
 | .mk x0 _, v => .mk x0 v
def zal.zero : zal := .mk 0 Sl.nil
def zan.zero : zan := .mk 0 zbw.zero Sl.nil 0 Sl.nil 0 Val.zero
def zai.zero : zai := .mk zan.zero 0
def zad.zero : zad := .mk Val.zero Sl.nil
mutual
def zap : zal → List D
 | .mk x0 x1 => ([(.int .i64 x0)]) ++ ([zvv x1])
def zar : zai → List D
 | .mk x0 x1 => (zbj x0) ++ ([(.int .i64 x1)])
def zbj : zan → List D
 | .mk x0 x1 x2 x3 x4 x5 x6 => ([(.int .i64 x0)]) ++ (zcI x1) ++ ([zvu x2]) ++ ([(.int .i64 x3)]) ++ ([zrj x4]) ++ ([(.int .i64 x5)]) ++ (zhj x6)
def zao : zad → List D
 | .mk x0 x1 => (zhj x0) ++ ([zuh x1])
def zvv : Sl zai → D
 | .mk f l => .sl f (zw8 l)
def zw8 : List zai → List (List D)
 | [] => []
 | x :: r => (zar x) :: zw8 r
def zvu : Sl (Sl zal) → D
 | .mk f l => .sl f (zw7 l)
def zw7 : List (Sl zal) → List (List D)
 | [] => []
 | x :: r => ([zuh x]) :: zw7 r
def zuh : Sl zal → D
 | .mk f l => .sl f (zGF l)
def zGF : List zal → List (List D)
 | [] => []
 | x :: r => (zap x) :: zGF r
def zrj : Sl zad → D
 | .mk f l => .sl f (zrX l)
def zrX : List zad → List (List D)
 | [] => []
 | x :: r => (zao x) :: zrX r
end
theorem zFp (l : List zai) : zw8 l = l.map zar := by
 induction l with
 | nil => rfl
 | cons x r ih => rw [zw8, ih]; rfl
theorem zlw (s : Sl zai) : zvv s = dSl zar s := by cases s; simp only [zvv, dSl, zFp]
theorem zDJ (l : List zal) : zGF l = l.map zap := by
 induction l with
 | nil => rfl
 | cons x r ih => rw [zGF, ih]; rfl
theorem zpp (s : Sl zal) : zuh s = dSl zap s := by cases s; simp only [zuh, dSl, zDJ]
theorem zBE (l : List zad) : zrX l = l.map zao := by
 induction l with
 | nil => rfl
 | cons x r ih => rw [zrX, ih]; rfl
theorem zjz (s : Sl zad) : zrj s = dSl zao s := by cases s; simp only [zrj, dSl, zBE]
theorem zFo (l : List (Sl zal)) : zw7 l = l.map (cSl zap) := by
 induction l with
 | nil => rfl
 | cons x r ih => rw [zw7, ih]; cases x; simp only [List.map_cons, cSl, dSl, zuh, zDJ]
theorem zlv (s : Sl (Sl zal)) : zvu s = dSl (cSl zap) s := by cases s; simp only [zvu, dSl, zFo]
theorem zij (x : zal) : zap x = ([(.int .i64 x.coeff)]) ++ ([(dSl zar x.factors)]) := by
 cases x; simp only [zap, zlw, zlv, zpp, zjz, zal.coeff, zal.factors]
theorem za8 (x : zai) : zar x = (zbj x.atom) ++ ([(.int .i64 x.exp)]) := by
 cases x; simp only [zar, zlw, zlv, zpp, zjz, zai.atom, zai.exp]
theorem zaS (x : zan) : zbj x = ([(.int .i64 x.kind)]) ++ (zcI x.row) ++ ([(dSl (cSl zap) x.args)]) ++ ([(.int .i64 x.func)]) ++ ([(dSl zao x.items)]) ++ ([(.int .i64 x.op)]) ++ (zhj x.bound) := by
 cases x; simp only [zbj, zlw, zlv, zpp, zjz, zan.kind, zan.row, zan.args, zan.func, zan.items, zan.op, zan.bound]
theorem zb1 (x : zad) : zao x = (zhj x.value) ++ ([(dSl zap x.ann)]) := by
 cases x; simp only [zao, zlw, zlv, zpp, zjz, zad.value, zad.ann]
@[go_sem] theorem zal.setCoeff_coeff (x : zal) (v : Int) : (x.setCoeff v).coeff = v := by cases x; rfl
@[go_sem] theorem zal.setCoeff_factors (x : zal) (v : Int) : (x.setCoeff v).factors = x.factors := by cases x; rfl
@[go_sem] theorem zal.setFactors_coeff (x : zal) (v : (Sl zai)) : (x.setFactors v).coeff = x.coeff := by cases x; rfl
@[go_sem] theorem zal.setFactors_factors (x : zal) (v : (Sl zai)) : (x.setFactors v).factors = v := by cases x; rfl
@[go_sem] theorem ztU (x : zal) : (zap x).length = 2 := by simp [zij]
@[go_sem] theorem zMx (x : zal) : zct (zap x) = true := by simp [zij, zft, zct, cell, dSl]
@[go_sem] theorem zzq (x : zal) : zbb (zap x) = true := by simp [zij, zen, zbb, still, dSl]
@[go_sem] theorem zOs (x : zal) : zq6 (zap x) = [] := by simp [zij, zhS, zq6, ids, dSl]
@[go_sem] theorem zOm (ρ : Nm → Option (Nm × Nat)) (x : zal) : zqf ρ (zap x) = some (zap x) := by simp [zij, zhL, zqf, ren, dSl]
@[go_sem] theorem zNm (n : Nat) (x : zal) : zfF (ziH n) (zap x) = pure (zap x, []) := zhM (zzq x)
@[go_sem] theorem zal.zero_coeff : zal.zero.coeff = 0 := rfl
@[go_sem] theorem zal.zero_factors : zal.zero.factors = Sl.nil := rfl
@[go_sem] theorem zQy (x : zal) : cut (zap x) 0 2 = zap x := zkH (ztU x)
@[go_sem] theorem zK0 (x : zal) : cut (zap x) 0 1 = [(.int .i64 x.coeff)] := by
  simp [cut, zij]
@[go_sem] theorem zKQ (x : zal) (v : Int) : put (zap x) 0 ([(.int .i64 v)]) = zap (x.setCoeff v) := by
  simp [put, zij, zal.setCoeff_coeff, zal.setCoeff_factors]
@[go_sem] theorem zIx (x : zal) : cut (zap x) 1 1 = [(dSl zar x.factors)] := by
  simp [cut, zij]
@[go_sem] theorem zIs (x : zal) (v : (Sl zai)) : put (zap x) 1 ([(dSl zar v)]) = zap (x.setFactors v) := by
  simp [put, zij, zal.setFactors_coeff, zal.setFactors_factors]
@[go_sem] theorem zLF (x : zal) (b : Nm) (g o l : Nat) : put (zap x) 1 [.own b g o l] = [(.int .i64 x.coeff), .own b g o l] := by
  simp [put, zij]
@[go_sem] theorem zMG (x y : zal) : put (zap x) 0 (zap y) = zap y := zjp (ztU x) (ztU y)
@[go_sem] theorem zan.setKind_kind (x : zan) (v : Int) : (x.setKind v).kind = v := by cases x; rfl
@[go_sem] theorem zan.setKind_row (x : zan) (v : Int) : (x.setKind v).row = x.row := by cases x; rfl
@[go_sem] theorem zan.setKind_args (x : zan) (v : Int) : (x.setKind v).args = x.args := by cases x; rfl
@[go_sem] theorem zan.setKind_func (x : zan) (v : Int) : (x.setKind v).func = x.func := by cases x; rfl
@[go_sem] theorem zan.setKind_items (x : zan) (v : Int) : (x.setKind v).items = x.items := by cases x; rfl
@[go_sem] theorem zan.setKind_op (x : zan) (v : Int) : (x.setKind v).op = x.op := by cases x; rfl
@[go_sem] theorem zan.setKind_bound (x : zan) (v : Int) : (x.setKind v).bound = x.bound := by cases x; rfl
@[go_sem] theorem zan.setRow_kind (x : zan) (v : zbw) : (x.setRow v).kind = x.kind := by cases x; rfl
@[go_sem] theorem zan.setRow_row (x : zan) (v : zbw) : (x.setRow v).row = v := by cases x; rfl
@[go_sem] theorem zan.setRow_args (x : zan) (v : zbw) : (x.setRow v).args = x.args := by cases x; rfl
@[go_sem] theorem zan.setRow_func (x : zan) (v : zbw) : (x.setRow v).func = x.func := by cases x; rfl
@[go_sem] theorem zan.setRow_items (x : zan) (v : zbw) : (x.setRow v).items = x.items := by cases x; rfl
@[go_sem] theorem zan.setRow_op (x : zan) (v : zbw) : (x.setRow v).op = x.op := by cases x; rfl
@[go_sem] theorem zan.setRow_bound (x : zan) (v : zbw) : (x.setRow v).bound = x.bound := by cases x; rfl
@[go_sem] theorem zan.setArgs_kind (x : zan) (v : (Sl (Sl zal))) : (x.setArgs v).kind = x.kind := by cases x; rfl
@[go_sem] theorem zan.setArgs_row (x : zan) (v : (Sl (Sl zal))) : (x.setArgs v).row = x.row := by cases x; rfl
@[go_sem] theorem zan.setArgs_args (x : zan) (v : (Sl (Sl zal))) : (x.setArgs v).args = v := by cases x; rfl
@[go_sem] theorem zan.setArgs_func (x : zan) (v : (Sl (Sl zal))) : (x.setArgs v).func = x.func := by cases x; rfl
@[go_sem] theorem zan.setArgs_items (x : zan) (v : (Sl (Sl zal))) : (x.setArgs v).items = x.items := by cases x; rfl
@[go_sem] theorem zan.setArgs_op (x : zan) (v : (Sl (Sl zal))) : (x.setArgs v).op = x.op := by cases x; rfl
@[go_sem] theorem zan.setArgs_bound (x : zan) (v : (Sl (Sl zal))) : (x.setArgs v).bound = x.bound := by cases x; rfl
@[go_sem] theorem zan.setFunc_kind (x : zan) (v : Int) : (x.setFunc v).kind = x.kind := by cases x; rfl
@[go_sem] theorem zan.setFunc_row (x : zan) (v : Int) : (x.setFunc v).row = x.row := by cases x; rfl
@[go_sem] theorem zan.setFunc_args (x : zan) (v : Int) : (x.setFunc v).args = x.args := by cases x; rfl
@[go_sem] theorem zan.setFunc_func (x : zan) (v : Int) : (x.setFunc v).func = v := by cases x; rfl
@[go_sem] theorem zan.setFunc_items (x : zan) (v : Int) : (x.setFunc v).items = x.items := by cases x; rfl
@[go_sem] theorem zan.setFunc_op (x : zan) (v : Int) : (x.setFunc v).op = x.op := by cases x; rfl
@[go_sem] theorem zan.setFunc_bound (x : zan) (v : Int) : (x.setFunc v).bound = x.bound := by cases x; rfl
@[go_sem] theorem zan.setItems_kind (x : zan) (v : (Sl zad)) : (x.setItems v).kind = x.kind := by cases x; rfl
@[go_sem] theorem zan.setItems_row (x : zan) (v : (Sl zad)) : (x.setItems v).row = x.row := by cases x; rfl
@[go_sem] theorem zan.setItems_args (x : zan) (v : (Sl zad)) : (x.setItems v).args = x.args := by cases x; rfl
@[go_sem] theorem zan.setItems_func (x : zan) (v : (Sl zad)) : (x.setItems v).func = x.func := by cases x; rfl
@[go_sem] theorem zan.setItems_items (x : zan) (v : (Sl zad)) : (x.setItems v).items = v := by cases x; rfl
@[go_sem] theorem zan.setItems_op (x : zan) (v : (Sl zad)) : (x.setItems v).op = x.op := by cases x; rfl
@[go_sem] theorem zan.setItems_bound (x : zan) (v : (Sl zad)) : (x.setItems v).bound = x.bound := by cases x; rfl
@[go_sem] theorem zan.setOp_kind (x : zan) (v : Int) : (x.setOp v).kind = x.kind := by cases x; rfl
@[go_sem] theorem zan.setOp_row (x : zan) (v : Int) : (x.setOp v).row = x.row := by cases x; rfl
@[go_sem] theorem zan.setOp_args (x : zan) (v : Int) : (x.setOp v).args = x.args := by cases x; rfl
@[go_sem] theorem zan.setOp_func (x : zan) (v : Int) : (x.setOp v).func = x.func := by cases x; rfl
@[go_sem] theorem zan.setOp_items (x : zan) (v : Int) : (x.setOp v).items = x.items := by cases x; rfl
@[go_sem] theorem zan.setOp_op (x : zan) (v : Int) : (x.setOp v).op = v := by cases x; rfl
@[go_sem] theorem zan.setOp_bound (x : zan) (v : Int) : (x.setOp v).bound = x.bound := by cases x; rfl
@[go_sem] theorem zan.setBound_kind (x : zan) (v : Val) : (x.setBound v).kind = x.kind := by cases x; rfl
@[go_sem] theorem zan.setBound_row (x : zan) (v : Val) : (x.setBound v).row = x.row := by cases x; rfl
@[go_sem] theorem zan.setBound_args (x : zan) (v : Val) : (x.setBound v).args = x.args := by cases x; rfl
@[go_sem] theorem zan.setBound_func (x : zan) (v : Val) : (x.setBound v).func = x.func := by cases x; rfl
@[go_sem] theorem zan.setBound_items (x : zan) (v : Val) : (x.setBound v).items = x.items := by cases x; rfl
@[go_sem] theorem zan.setBound_op (x : zan) (v : Val) : (x.setBound v).op = x.op := by cases x; rfl
@[go_sem] theorem zan.setBound_bound (x : zan) (v : Val) : (x.setBound v).bound = v := by cases x; rfl
@[go_sem] theorem zqZ (x : zan) : (zbj x).length = 10 := by simp [zaS, zlP, zrQ]
@[go_sem] theorem zBJ (x : zan) : zct (zbj x) = true := by simp [zaS, zft, zct, cell, dSl, zsG, zwo]
@[go_sem] theorem zsF (x : zan) : zbb (zbj x) = true := by simp [zaS, zen, zbb, still, dSl, zmi, zpu]
@[go_sem] theorem zHC (x : zan) : zq6 (zbj x) = [] := by simp [zaS, zhS, zq6, ids, dSl, zxV, zDb]
@[go_sem] theorem zG5 (ρ : Nm → Option (Nm × Nat)) (x : zan) : zqf ρ (zbj x) = some (zbj x) := by simp [zaS, zhL, zqf, ren, dSl, zxz, zCE]
@[go_sem] theorem zNn (n : Nat) (x : zan) : zfF (ziH n) (zbj x) = pure (zbj x, []) := zhM (zsF x)
@[go_sem] theorem zan.zero_kind : zan.zero.kind = 0 := rfl
@[go_sem] theorem zan.zero_row : zan.zero.row = zbw.zero := rfl
@[go_sem] theorem zan.zero_args : zan.zero.args = Sl.nil := rfl
@[go_sem] theorem zan.zero_func : zan.zero.func = 0 := rfl
@[go_sem] theorem zan.zero_items : zan.zero.items = Sl.nil := rfl
@[go_sem] theorem zan.zero_op : zan.zero.op = 0 := rfl
@[go_sem] theorem zan.zero_bound : zan.zero.bound = Val.zero := rfl
@[go_sem] theorem zQz (x : zan) : cut (zbj x) 0 10 = zbj x := zkH (zqZ x)
@[go_sem] theorem zMg (x : zan) : cut (zbj x) 0 1 = [(.int .i64 x.kind)] := by
  simp [cut, zaS, zav, zaT]
@[go_sem] theorem zLK (x : zan) (v : Int) : put (zbj x) 0 ([(.int .i64 v)]) = zbj (x.setKind v) := by
  simp [put, zaS, zav, zaT, zan.setKind_kind, zan.setKind_row, zan.setKind_args, zan.setKind_func, zan.setKind_items, zan.setKind_op, zan.setKind_bound]
@[go_sem] theorem zM2 (x : zan) : cut (zbj x) 1 2 = zcI x.row := by
  simp [cut, zaS, zav, zaT]
@[go_sem] theorem zMH (x : zan) (v : zbw) : put (zbj x) 1 (zcI v) = zbj (x.setRow v) := by
  simp [put, zaS, zav, zaT, zan.setRow_kind, zan.setRow_row, zan.setRow_args, zan.setRow_func, zan.setRow_items, zan.setRow_op, zan.setRow_bound]
@[go_sem] theorem zGA (x : zan) : cut (zbj x) 1 1 = [(.int .i64 x.row.table)] := by
  simp [cut, zaS, zav, zaT]
@[go_sem] theorem zF3 (x : zan) (v : Int) : put (zbj x) 1 ([(.int .i64 v)]) = zbj (x.setRow (x.row.setTable v)) := by
  simp [put, zaS, zav, zaT, zan.setRow_kind, zan.setRow_row, zan.setRow_args, zan.setRow_func, zan.setRow_items, zan.setRow_op, zan.setRow_bound, zbw.setTable_table, zbw.setTable_seq]
@[go_sem] theorem zIy (x : zan) : cut (zbj x) 2 1 = [(.int .i64 x.row.seq)] := by
  simp [cut, zaS, zav, zaT]
@[go_sem] theorem zIu (x : zan) (v : Int) : put (zbj x) 2 ([(.int .i64 v)]) = zbj (x.setRow (x.row.setSeq v)) := by
  simp [put, zaS, zav, zaT, zan.setRow_kind, zan.setRow_row, zan.setRow_args, zan.setRow_func, zan.setRow_items, zan.setRow_op, zan.setRow_bound, zbw.setSeq_table, zbw.setSeq_seq]
@[go_sem] theorem zMi (x : zan) : cut (zbj x) 3 1 = [(dSl (cSl zap) x.args)] := by
  simp [cut, zaS, zav, zaT]
@[go_sem] theorem zLM (x : zan) (v : (Sl (Sl zal))) : put (zbj x) 3 ([(dSl (cSl zap) v)]) = zbj (x.setArgs v) := by
  simp [put, zaS, zav, zaT, zan.setArgs_kind, zan.setArgs_row, zan.setArgs_args, zan.setArgs_func, zan.setArgs_items, zan.setArgs_op, zan.setArgs_bound]
@[go_sem] theorem zMh (x : zan) : cut (zbj x) 4 1 = [(.int .i64 x.func)] := by
  simp [cut, zaS, zav, zaT]
@[go_sem] theorem zLL (x : zan) (v : Int) : put (zbj x) 4 ([(.int .i64 v)]) = zbj (x.setFunc v) := by
  simp [put, zaS, zav, zaT, zan.setFunc_kind, zan.setFunc_row, zan.setFunc_args, zan.setFunc_func, zan.setFunc_items, zan.setFunc_op, zan.setFunc_bound]
@[go_sem] theorem zK3 (x : zan) : cut (zbj x) 5 1 = [(dSl zao x.items)] := by
  simp [cut, zaS, zav, zaT]
@[go_sem] theorem zKU (x : zan) (v : (Sl zad)) : put (zbj x) 5 ([(dSl zao v)]) = zbj (x.setItems v) := by
  simp [put, zaS, zav, zaT, zan.setItems_kind, zan.setItems_row, zan.setItems_args, zan.setItems_func, zan.setItems_items, zan.setItems_op, zan.setItems_bound]
@[go_sem] theorem zOa (x : zan) : cut (zbj x) 6 1 = [(.int .i64 x.op)] := by
  simp [cut, zaS, zav, zaT]
@[go_sem] theorem zNs (x : zan) (v : Int) : put (zbj x) 6 ([(.int .i64 v)]) = zbj (x.setOp v) := by
  simp [put, zaS, zav, zaT, zan.setOp_kind, zan.setOp_row, zan.setOp_args, zan.setOp_func, zan.setOp_items, zan.setOp_op, zan.setOp_bound]
@[go_sem] theorem zK4 (x : zan) : cut (zbj x) 7 3 = zhj x.bound := by
  simp [cut, zaS, zav, zaT]
@[go_sem] theorem zKV (x : zan) (v : Val) : put (zbj x) 7 (zhj v) = zbj (x.setBound v) := by
  simp [put, zaS, zav, zaT, zan.setBound_kind, zan.setBound_row, zan.setBound_args, zan.setBound_func, zan.setBound_items, zan.setBound_op, zan.setBound_bound]
@[go_sem] theorem zFi (x : zan) : cut (zbj x) 7 1 = [(.int .i64 x.bound.kind)] := by
  simp [cut, zaS, zav, zaT]
@[go_sem] theorem zEH (x : zan) (v : Int) : put (zbj x) 7 ([(.int .i64 v)]) = zbj (x.setBound (x.bound.setKind v)) := by
  simp [put, zaS, zav, zaT, zan.setBound_kind, zan.setBound_row, zan.setBound_args, zan.setBound_func, zan.setBound_items, zan.setBound_op, zan.setBound_bound, Val.setKind_kind, Val.setKind_int, Val.setKind_text]
@[go_sem] theorem zGB (x : zan) : cut (zbj x) 8 1 = [(.int .i64 x.bound.int)] := by
  simp [cut, zaS, zav, zaT]
@[go_sem] theorem zF4 (x : zan) (v : Int) : put (zbj x) 8 ([(.int .i64 v)]) = zbj (x.setBound (x.bound.setInt v)) := by
  simp [put, zaS, zav, zaT, zan.setBound_kind, zan.setBound_row, zan.setBound_args, zan.setBound_func, zan.setBound_items, zan.setBound_op, zan.setBound_bound, Val.setInt_kind, Val.setInt_int, Val.setInt_text]
@[go_sem] theorem zFh (x : zan) : cut (zbj x) 9 1 = [(.str x.bound.text)] := by
  simp [cut, zaS, zav, zaT]
@[go_sem] theorem zEG (x : zan) (v : Str) : put (zbj x) 9 ([(.str v)]) = zbj (x.setBound (x.bound.setText v)) := by
  simp [put, zaS, zav, zaT, zan.setBound_kind, zan.setBound_row, zan.setBound_args, zan.setBound_func, zan.setBound_items, zan.setBound_op, zan.setBound_bound, Val.setText_kind, Val.setText_int, Val.setText_text]
@[go_sem] theorem zLJ (x : zan) (b : Nm) (g o l : Nat) : put (zbj x) 3 [.own b g o l] = [(.int .i64 x.kind), (.int .i64 x.row.table), (.int .i64 x.row.seq), .own b g o l, (.int .i64 x.func), (dSl zao x.items), (.int .i64 x.op), (.int .i64 x.bound.kind), (.int .i64 x.bound.int), (.str x.bound.text)] := by
  simp [put, zaS, zav, zaT]
@[go_sem] theorem zLI (x : zan) (b : Nm) (g o l : Nat) : put (zbj x) 5 [.own b g o l] = [(.int .i64 x.kind), (.int .i64 x.row.table), (.int .i64 x.row.seq), (dSl (cSl zap) x.args), (.int .i64 x.func), .own b g o l, (.int .i64 x.op), (.int .i64 x.bound.kind), (.int .i64 x.bound.int), (.str x.bound.text)] := by
  simp [put, zaS, zav, zaT]
@[go_sem] theorem zMI (x y : zan) : put (zbj x) 0 (zbj y) = zbj y := zjp (zqZ x) (zqZ y)
@[go_sem] theorem zai.setAtom_atom (x : zai) (v : zan) : (x.setAtom v).atom = v := by cases x; rfl
@[go_sem] theorem zai.setAtom_exp (x : zai) (v : zan) : (x.setAtom v).exp = x.exp := by cases x; rfl
@[go_sem] theorem zai.setExp_atom (x : zai) (v : Int) : (x.setExp v).atom = x.atom := by cases x; rfl
@[go_sem] theorem zai.setExp_exp (x : zai) (v : Int) : (x.setExp v).exp = v := by cases x; rfl
@[go_sem] theorem zo8 (x : zai) : (zar x).length = 11 := by simp [za8, zqZ]
@[go_sem] theorem zKH (x : zai) : zct (zar x) = true := by simp [za8, zft, zct, cell, dSl, zBJ]
@[go_sem] theorem zwD (x : zai) : zbb (zar x) = true := by simp [za8, zen, zbb, still, dSl, zsF]
@[go_sem] theorem zMQ (x : zai) : zq6 (zar x) = [] := by simp [za8, zhS, zq6, ids, dSl, zHC]
@[go_sem] theorem zMC (ρ : Nm → Option (Nm × Nat)) (x : zai) : zqf ρ (zar x) = some (zar x) := by simp [za8, zhL, zqf, ren, dSl, zG5]
@[go_sem] theorem zLC (n : Nat) (x : zai) : zfF (ziH n) (zar x) = pure (zar x, []) := zhM (zwD x)
@[go_sem] theorem zai.zero_atom : zai.zero.atom = zan.zero := rfl
@[go_sem] theorem zai.zero_exp : zai.zero.exp = 0 := rfl
@[go_sem] theorem zN7 (x : zai) : cut (zar x) 0 11 = zar x := zkH (zo8 x)
@[go_sem] theorem zKm (x : zai) : cut (zar x) 0 10 = zbj x.atom := by
  simp [cut, za8, zaS, zav, zaT]
@[go_sem] theorem zJh (x : zai) (v : zan) : put (zar x) 0 (zbj v) = zar (x.setAtom v) := by
  simp [put, za8, zaS, zav, zaT, zai.setAtom_atom, zai.setAtom_exp]
@[go_sem] theorem zEc (x : zai) : cut (zar x) 0 1 = [(.int .i64 x.atom.kind)] := by
  simp [cut, za8, zaS, zav, zaT]
@[go_sem] theorem zD9 (x : zai) (v : Int) : put (zar x) 0 ([(.int .i64 v)]) = zar (x.setAtom (x.atom.setKind v)) := by
  simp [put, za8, zaS, zav, zaT, zai.setAtom_atom, zai.setAtom_exp, zan.setKind_kind, zan.setKind_row, zan.setKind_args, zan.setKind_func, zan.setKind_items, zan.setKind_op, zan.setKind_bound]
@[go_sem] theorem zFf (x : zai) : cut (zar x) 1 2 = zcI x.atom.row := by
  simp [cut, za8, zaS, zav, zaT]
@[go_sem] theorem zEE (x : zai) (v : zbw) : put (zar x) 1 (zcI v) = zar (x.setAtom (x.atom.setRow v)) := by
  simp [put, za8, zaS, zav, zaT, zai.setAtom_atom, zai.setAtom_exp, zan.setRow_kind, zan.setRow_row, zan.setRow_args, zan.setRow_func, zan.setRow_items, zan.setRow_op, zan.setRow_bound]
@[go_sem] theorem zzk (x : zai) : cut (zar x) 1 1 = [(.int .i64 x.atom.row.table)] := by
  simp [cut, za8, zaS, zav, zaT]
@[go_sem] theorem zy4 (x : zai) (v : Int) : put (zar x) 1 ([(.int .i64 v)]) = zar (x.setAtom (x.atom.setRow (x.atom.row.setTable v))) := by
  simp [put, za8, zaS, zav, zaT, zai.setAtom_atom, zai.setAtom_exp, zan.setRow_kind, zan.setRow_row, zan.setRow_args, zan.setRow_func, zan.setRow_items, zan.setRow_op, zan.setRow_bound, zbw.setTable_table, zbw.setTable_seq]
@[go_sem] theorem zBB (x : zai) : cut (zar x) 2 1 = [(.int .i64 x.atom.row.seq)] := by
  simp [cut, za8, zaS, zav, zaT]
@[go_sem] theorem zAW (x : zai) (v : Int) : put (zar x) 2 ([(.int .i64 v)]) = zar (x.setAtom (x.atom.setRow (x.atom.row.setSeq v))) := by
  simp [put, za8, zaS, zav, zaT, zai.setAtom_atom, zai.setAtom_exp, zan.setRow_kind, zan.setRow_row, zan.setRow_args, zan.setRow_func, zan.setRow_items, zan.setRow_op, zan.setRow_bound, zbw.setSeq_table, zbw.setSeq_seq]
@[go_sem] theorem zEe (x : zai) : cut (zar x) 3 1 = [(dSl (cSl zap) x.atom.args)] := by
  simp [cut, za8, zaS, zav, zaT]
@[go_sem] theorem zEb (x : zai) (v : (Sl (Sl zal))) : put (zar x) 3 ([(dSl (cSl zap) v)]) = zar (x.setAtom (x.atom.setArgs v)) := by
  simp [put, za8, zaS, zav, zaT, zai.setAtom_atom, zai.setAtom_exp, zan.setArgs_kind, zan.setArgs_row, zan.setArgs_args, zan.setArgs_func, zan.setArgs_items, zan.setArgs_op, zan.setArgs_bound]
@[go_sem] theorem zEd (x : zai) : cut (zar x) 4 1 = [(.int .i64 x.atom.func)] := by
  simp [cut, za8, zaS, zav, zaT]
@[go_sem] theorem zEa (x : zai) (v : Int) : put (zar x) 4 ([(.int .i64 v)]) = zar (x.setAtom (x.atom.setFunc v)) := by
  simp [put, za8, zaS, zav, zaT, zai.setAtom_atom, zai.setAtom_exp, zan.setFunc_kind, zan.setFunc_row, zan.setFunc_args, zan.setFunc_func, zan.setFunc_items, zan.setFunc_op, zan.setFunc_bound]
@[go_sem] theorem zDx (x : zai) : cut (zar x) 5 1 = [(dSl zao x.atom.items)] := by
  simp [cut, za8, zaS, zav, zaT]
@[go_sem] theorem zCJ (x : zai) (v : (Sl zad)) : put (zar x) 5 ([(dSl zao v)]) = zar (x.setAtom (x.atom.setItems v)) := by
  simp [put, za8, zaS, zav, zaT, zai.setAtom_atom, zai.setAtom_exp, zan.setItems_kind, zan.setItems_row, zan.setItems_args, zan.setItems_func, zan.setItems_items, zan.setItems_op, zan.setItems_bound]
@[go_sem] theorem zGz (x : zai) : cut (zar x) 6 1 = [(.int .i64 x.atom.op)] := by
  simp [cut, za8, zaS, zav, zaT]
@[go_sem] theorem zF2 (x : zai) (v : Int) : put (zar x) 6 ([(.int .i64 v)]) = zar (x.setAtom (x.atom.setOp v)) := by
  simp [put, za8, zaS, zav, zaT, zai.setAtom_atom, zai.setAtom_exp, zan.setOp_kind, zan.setOp_row, zan.setOp_args, zan.setOp_func, zan.setOp_items, zan.setOp_op, zan.setOp_bound]
@[go_sem] theorem zDy (x : zai) : cut (zar x) 7 3 = zhj x.atom.bound := by
  simp [cut, za8, zaS, zav, zaT]
@[go_sem] theorem zCK (x : zai) (v : Val) : put (zar x) 7 (zhj v) = zar (x.setAtom (x.atom.setBound v)) := by
  simp [put, za8, zaS, zav, zaT, zai.setAtom_atom, zai.setAtom_exp, zan.setBound_kind, zan.setBound_row, zan.setBound_args, zan.setBound_func, zan.setBound_items, zan.setBound_op, zan.setBound_bound]
@[go_sem] theorem zyY (x : zai) : cut (zar x) 7 1 = [(.int .i64 x.atom.bound.kind)] := by
  simp [cut, za8, zaS, zav, zaT]
@[go_sem] theorem zyU (x : zai) (v : Int) : put (zar x) 7 ([(.int .i64 v)]) = zar (x.setAtom (x.atom.setBound (x.atom.bound.setKind v))) := by
  simp [put, za8, zaS, zav, zaT, zai.setAtom_atom, zai.setAtom_exp, zan.setBound_kind, zan.setBound_row, zan.setBound_args, zan.setBound_func, zan.setBound_items, zan.setBound_op, zan.setBound_bound, Val.setKind_kind, Val.setKind_int, Val.setKind_text]
@[go_sem] theorem zzl (x : zai) : cut (zar x) 8 1 = [(.int .i64 x.atom.bound.int)] := by
  simp [cut, za8, zaS, zav, zaT]
@[go_sem] theorem zy5 (x : zai) (v : Int) : put (zar x) 8 ([(.int .i64 v)]) = zar (x.setAtom (x.atom.setBound (x.atom.bound.setInt v))) := by
  simp [put, za8, zaS, zav, zaT, zai.setAtom_atom, zai.setAtom_exp, zan.setBound_kind, zan.setBound_row, zan.setBound_args, zan.setBound_func, zan.setBound_items, zan.setBound_op, zan.setBound_bound, Val.setInt_kind, Val.setInt_int, Val.setInt_text]
@[go_sem] theorem zyX (x : zai) : cut (zar x) 9 1 = [(.str x.atom.bound.text)] := by
  simp [cut, za8, zaS, zav, zaT]
@[go_sem] theorem zyT (x : zai) (v : Str) : put (zar x) 9 ([(.str v)]) = zar (x.setAtom (x.atom.setBound (x.atom.bound.setText v))) := by
  simp [put, za8, zaS, zav, zaT, zai.setAtom_atom, zai.setAtom_exp, zan.setBound_kind, zan.setBound_row, zan.setBound_args, zan.setBound_func, zan.setBound_items, zan.setBound_op, zan.setBound_bound, Val.setText_kind, Val.setText_int, Val.setText_text]
@[go_sem] theorem zK1 (x : zai) : cut (zar x) 10 1 = [(.int .i64 x.exp)] := by
  simp [cut, za8, zaS, zav, zaT]
@[go_sem] theorem zKR (x : zai) (v : Int) : put (zar x) 10 ([(.int .i64 v)]) = zar (x.setExp v) := by
  simp [put, za8, zaS, zav, zaT, zai.setExp_atom, zai.setExp_exp]
@[go_sem] theorem zJg (x : zai) (b : Nm) (g o l : Nat) : put (zar x) 3 [.own b g o l] = [(.int .i64 x.atom.kind), (.int .i64 x.atom.row.table), (.int .i64 x.atom.row.seq), .own b g o l, (.int .i64 x.atom.func), (dSl zao x.atom.items), (.int .i64 x.atom.op), (.int .i64 x.atom.bound.kind), (.int .i64 x.atom.bound.int), (.str x.atom.bound.text), (.int .i64 x.exp)] := by
  simp [put, za8, zaS, zav, zaT]
@[go_sem] theorem zJf (x : zai) (b : Nm) (g o l : Nat) : put (zar x) 5 [.own b g o l] = [(.int .i64 x.atom.kind), (.int .i64 x.atom.row.table), (.int .i64 x.atom.row.seq), (dSl (cSl zap) x.atom.args), (.int .i64 x.atom.func), .own b g o l, (.int .i64 x.atom.op), (.int .i64 x.atom.bound.kind), (.int .i64 x.atom.bound.int), (.str x.atom.bound.text), (.int .i64 x.exp)] := by
  simp [put, za8, zaS, zav, zaT]
@[go_sem] theorem zKS (x y : zai) : put (zar x) 0 (zar y) = zar y := zjp (zo8 x) (zo8 y)
@[go_sem] theorem zad.setValue_value (x : zad) (v : Val) : (x.setValue v).value = v := by cases x; rfl
@[go_sem] theorem zad.setValue_ann (x : zad) (v : Val) : (x.setValue v).ann = x.ann := by cases x; rfl
@[go_sem] theorem zad.setAnn_value (x : zad) (v : (Sl zal)) : (x.setAnn v).value = x.value := by cases x; rfl
@[go_sem] theorem zad.setAnn_ann (x : zad) (v : (Sl zal)) : (x.setAnn v).ann = v := by cases x; rfl
@[go_sem] theorem zig (x : zad) : (zao x).length = 4 := by simp [zb1, zrQ]
@[go_sem] theorem zIe (x : zad) : zct (zao x) = true := by simp [zb1, zft, zct, cell, dSl, zwo]
@[go_sem] theorem zum (x : zad) : zbb (zao x) = true := by simp [zb1, zen, zbb, still, dSl, zpu]
@[go_sem] theorem zKX (x : zad) : zq6 (zao x) = [] := by simp [zb1, zhS, zq6, ids, dSl, zDb]
@[go_sem] theorem zKO (ρ : Nm → Option (Nm × Nat)) (x : zad) : zqf ρ (zao x) = some (zao x) := by simp [zb1, zhL, zqf, ren, dSl, zCE]
@[go_sem] theorem zI6 (n : Nat) (x : zad) : zfF (ziH n) (zao x) = pure (zao x, []) := zhM (zum x)
@[go_sem] theorem zad.zero_value : zad.zero.value = Val.zero := rfl
@[go_sem] theorem zad.zero_ann : zad.zero.ann = Sl.nil := rfl
@[go_sem] theorem zMe (x : zad) : cut (zao x) 0 4 = zao x := zkH (zig x)
@[go_sem] theorem zGy (x : zad) : cut (zao x) 0 3 = zhj x.value := by
  simp [cut, zb1, zaT]
@[go_sem] theorem zF1 (x : zad) (v : Val) : put (zao x) 0 (zhj v) = zao (x.setValue v) := by
  simp [put, zb1, zaT, zad.setValue_value, zad.setValue_ann]
@[go_sem] theorem zBA (x : zad) : cut (zao x) 0 1 = [(.int .i64 x.value.kind)] := by
  simp [cut, zb1, zaT]
@[go_sem] theorem zAV (x : zad) (v : Int) : put (zao x) 0 ([(.int .i64 v)]) = zao (x.setValue (x.value.setKind v)) := by
  simp [put, zb1, zaT, zad.setValue_value, zad.setValue_ann, Val.setKind_kind, Val.setKind_int, Val.setKind_text]
@[go_sem] theorem zCh (x : zad) : cut (zao x) 1 1 = [(.int .i64 x.value.int)] := by
  simp [cut, zb1, zaT]
@[go_sem] theorem zCe (x : zad) (v : Int) : put (zao x) 1 ([(.int .i64 v)]) = zao (x.setValue (x.value.setInt v)) := by
  simp [put, zb1, zaT, zad.setValue_value, zad.setValue_ann, Val.setInt_kind, Val.setInt_int, Val.setInt_text]
@[go_sem] theorem zBz (x : zad) : cut (zao x) 2 1 = [(.str x.value.text)] := by
  simp [cut, zb1, zaT]
@[go_sem] theorem zAU (x : zad) (v : Str) : put (zao x) 2 ([(.str v)]) = zao (x.setValue (x.value.setText v)) := by
  simp [put, zb1, zaT, zad.setValue_value, zad.setValue_ann, Val.setText_kind, Val.setText_int, Val.setText_text]
@[go_sem] theorem zIw (x : zad) : cut (zao x) 3 1 = [(dSl zap x.ann)] := by
  simp [cut, zb1, zaT]
@[go_sem] theorem zIq (x : zad) (v : (Sl zal)) : put (zao x) 3 ([(dSl zap v)]) = zao (x.setAnn v) := by
  simp [put, zb1, zaT, zad.setAnn_value, zad.setAnn_ann]
@[go_sem] theorem zG7 (x : zad) (b : Nm) (g o l : Nat) : put (zao x) 3 [.own b g o l] = [(.int .i64 x.value.kind), (.int .i64 x.value.int), (.str x.value.text), .own b g o l] := by
  simp [put, zb1, zaT]
@[go_sem] theorem zIr (x y : zad) : put (zao x) 0 (zao y) = zao y := zjp (zig x) (zig y)
structure zbN where
 row : zbw
 to : (Sl zal)
def zbN.setRow : zbN → zbw → zbN
 | .mk _ x1, v => .mk v x1
def zbN.setTo : zbN → (Sl zal) → zbN
 | .mk x0 _, v => .mk x0 v
def zbN.zero : zbN := .mk zbw.zero Sl.nil
def zcB (x : zbN) : List D := (zcI x.row) ++ ([(dSl zap x.to)])
theorem zc2 (x : zbN) : zcB x = (zcI x.row) ++ ([(dSl zap x.to)]) := rfl
@[go_sem] theorem zbN.setRow_row (x : zbN) (v : zbw) : (x.setRow v).row = v := by cases x; rfl
@[go_sem] theorem zbN.setRow_to (x : zbN) (v : zbw) : (x.setRow v).to = x.to := by cases x; rfl
@[go_sem] theorem zbN.setTo_row (x : zbN) (v : (Sl zal)) : (x.setTo v).row = x.row := by cases x; rfl
@[go_sem] theorem zbN.setTo_to (x : zbN) (v : (Sl zal)) : (x.setTo v).to = v := by cases x; rfl
@[go_sem] theorem zqY (x : zbN) : (zcB x).length = 3 := by simp [zc2, zlP]
@[go_sem] theorem zIz (x : zbN) : zct (zcB x) = true := by simp [zc2, zft, zct, cell, dSl, zsG]
@[go_sem] theorem zvy (x : zbN) : zbb (zcB x) = true := by simp [zc2, zen, zbb, still, dSl, zmi]
@[go_sem] theorem zLX (x : zbN) : zq6 (zcB x) = [] := by simp [zc2, zhS, zq6, ids, dSl, zxV]
@[go_sem] theorem zLA (ρ : Nm → Option (Nm × Nat)) (x : zbN) : zqf ρ (zcB x) = some (zcB x) := by simp [zc2, zhL, zqf, ren, dSl, zxz]
@[go_sem] theorem zKP (n : Nat) (x : zbN) : zfF (ziH n) (zcB x) = pure (zcB x, []) := zhM (zvy x)
@[go_sem] theorem zbN.zero_row : zbN.zero.row = zbw.zero := rfl
@[go_sem] theorem zbN.zero_to : zbN.zero.to = Sl.nil := rfl
@[go_sem] theorem zMZ (x : zbN) : cut (zcB x) 0 3 = zcB x := zkH (zqY x)
@[go_sem] theorem zKn (x : zbN) : cut (zcB x) 0 2 = zcI x.row := by
  simp [cut, zc2, zav]
@[go_sem] theorem zJi (x : zbN) (v : zbw) : put (zcB x) 0 (zcI v) = zcB (x.setRow v) := by
  simp [put, zc2, zav, zbN.setRow_row, zbN.setRow_to]
@[go_sem] theorem zDz (x : zbN) : cut (zcB x) 0 1 = [(.int .i64 x.row.table)] := by
  simp [cut, zc2, zav]
@[go_sem] theorem zCL (x : zbN) (v : Int) : put (zcB x) 0 ([(.int .i64 v)]) = zcB (x.setRow (x.row.setTable v)) := by
  simp [put, zc2, zav, zbN.setRow_row, zbN.setRow_to, zbw.setTable_table, zbw.setTable_seq]
@[go_sem] theorem zFg (x : zbN) : cut (zcB x) 1 1 = [(.int .i64 x.row.seq)] := by
  simp [cut, zc2, zav]
@[go_sem] theorem zEF (x : zbN) (v : Int) : put (zcB x) 1 ([(.int .i64 v)]) = zcB (x.setRow (x.row.setSeq v)) := by
  simp [put, zc2, zav, zbN.setRow_row, zbN.setRow_to, zbw.setSeq_table, zbw.setSeq_seq]
@[go_sem] theorem zK2 (x : zbN) : cut (zcB x) 2 1 = [(dSl zap x.to)] := by
  simp [cut, zc2, zav]
@[go_sem] theorem zKT (x : zbN) (v : (Sl zal)) : put (zcB x) 2 ([(dSl zap v)]) = zcB (x.setTo v) := by
  simp [put, zc2, zav, zbN.setTo_row, zbN.setTo_to]
@[go_sem] theorem zIt (x : zbN) (b : Nm) (g o l : Nat) : put (zcB x) 2 [.own b g o l] = [(.int .i64 x.row.table), (.int .i64 x.row.seq), .own b g o l] := by
  simp [put, zc2, zav]
@[go_sem] theorem zJj (x y : zbN) : put (zcB x) 0 (zcB y) = zcB y := zjp (zqY x) (zqY y)
structure zab where
 rest : Str
def zab.setRest : zab → Str → zab
 | .mk _, v => .mk v
def zab.zero : zab := .mk []
def zae (x : zab) : List D := ([(.str x.rest)])
theorem zbP (x : zab) : zae x = ([(.str x.rest)]) := rfl
@[go_sem] theorem zab.setRest_rest (x : zab) (v : Str) : (x.setRest v).rest = v := by cases x; rfl
@[go_sem] theorem zhp (x : zab) : (zae x).length = 1 := by simp [zbP]
@[go_sem] theorem zyZ (x : zab) : zct (zae x) = true := by simp [zbP, zft, zct, cell, dSl]
@[go_sem] theorem zmj (x : zab) : zbb (zae x) = true := by simp [zbP, zen, zbb, still, dSl]
@[go_sem] theorem zBb (x : zab) : zq6 (zae x) = [] := by simp [zbP, zhS, zq6, ids, dSl]
@[go_sem] theorem zAO (ρ : Nm → Option (Nm × Nat)) (x : zab) : zqf ρ (zae x) = some (zae x) := by simp [zbP, zhL, zqf, ren, dSl]
@[go_sem] theorem zzV (n : Nat) (x : zab) : zfF (ziH n) (zae x) = pure (zae x, []) := zhM (zmj x)
@[go_sem] theorem zab.zero_rest : zab.zero.rest = [] := rfl
@[go_sem] theorem zBs (P : Program) (x y : zab) (k : List (TypeId × Nat)) : zhW P k (zae x) (zae y) = zhW P k [(.str x.rest)] [(.str y.rest)] := rfl
@[go_sem] theorem zCg (x : zab) : cut (zae x) 0 1 = zae x := zkH (zhp x)
@[go_sem] theorem zA3 (x : zab) : only (zae x) = some (.str x.rest) := rfl
@[go_sem] theorem zyV (x : zab) (v : Str) : put (zae x) 0 ([(.str v)]) = zae (x.setRest v) := by
  simp [put, zbP, zab.setRest_rest]
@[go_sem] theorem zy6 (x y : zab) : put (zae x) 0 (zae y) = zae y := zjp (zhp x) (zhp y)
end Go.Ev
namespace Go.Ev
def zfG (a b : Int) : Int := if a < b then -1 else if b < a then 1 else 0
def orI (a b : Int) : Int := if a = 0 then b else a
def zwC {α : Type} (f : α → α → Int) : List α → List α → Int
 | [], [] => 0
 | [], _ :: _ => -1
 | _ :: _, [] => 1
 | x :: xs, y :: ys => orI (f x y) (zwC f xs ys)
def zFk : Str → Str → Int := fun a b => if zda a b then -1 else if zda b a then 1 else 0
def zok (a b : zbw) : Int := orI (zfG a.table b.table) (zfG a.seq b.seq)
def zgW (a b : Val) : Int := orI (zfG a.kind b.kind) (orI (zfG a.int b.int) (zFk a.text b.text))
mutual
def zfa : zal → zal → Int
 | .mk c ⟨_, fs⟩, y => orI (zbV fs y.factors.l) (zfG c y.coeff)
def zbV : List zai → List zai → Int
 | [], [] => 0
 | [], _ :: _ => -1
 | _ :: _, [] => 1
 | x :: xs, y :: ys => orI (zcs x y) (zbV xs ys)
def zcs : zai → zai → Int
 | .mk a e, y => orI (zb0 a y.atom) (zfG e y.exp)
def zb0 : zan → zan → Int
 | .mk k r ⟨_, as⟩ f ⟨_, is⟩ o b, y => orI (zfG k y.kind) (orI (zok r y.row) (orI (zfX as y.args.l) (orI (zfG f y.func) (orI (zcR is y.items.l) (orI (zfG o y.op) (zgW b y.bound))))))
def zfX : List (Sl zal) → List (Sl zal) → Int
 | [], [] => 0
 | [], _ :: _ => -1
 | _ :: _, [] => 1
 | ⟨_, x⟩ :: xs, y :: ys => orI (zdu x y.l) (zfX xs ys)
def zdu : List zal → List zal → Int
 | [], [] => 0
 | [], _ :: _ => -1
 | _ :: _, [] => 1
 | x :: xs, y :: ys => orI (zfa x y) (zdu xs ys)
def zcR : List zad → List zad → Int
 | [], [] => 0
 | [], _ :: _ => -1
 | _ :: _, [] => 1
 | x :: xs, y :: ys => orI (zcS x y) (zcR xs ys)
def zcS : zad → zad → Int
 | .mk v ⟨_, l⟩, y => orI (zgW v y.value) (zdu l y.ann.l)
end
def zcH (a b : Sl zal) : Int := zdu a.l b.l
theorem zug (a b : List zai) : zbV a b = zwC zcs a b := by
 induction a generalizing b with
 | nil => cases b <;> simp [zbV, zwC]
 | cons x a ih => cases b <;> simp [zbV, zwC, ih]
theorem zjd (a b : List (Sl zal)) : zfX a b = zwC zcH a b := by
 induction a generalizing b with
 | nil => cases b <;> simp [zfX, zwC]
 | cons x a ih => cases b <;> cases x <;> simp [zfX, zwC, ih, zcH]
theorem zyc (a b : List zal) : zdu a b = zwC zfa a b := by
 induction a generalizing b with
 | nil => cases b <;> simp [zdu, zwC]
 | cons x a ih => cases b <;> simp [zdu, zwC, ih]
theorem zyd (a b : List zad) : zcR a b = zwC zcS a b := by
 induction a generalizing b with
 | nil => cases b <;> simp [zcR, zwC]
 | cons x a ih => cases b <;> simp [zcR, zwC, ih]
theorem zlR (x y : zal) : zfa x y = orI (zbV x.factors.l y.factors.l) (zfG x.coeff y.coeff) := by rcases x with ⟨c, ⟨f, l⟩⟩; simp only [zfa, zal.coeff, zal.factors]
theorem zm9 (x y : zai) : zcs x y = orI (zb0 x.atom y.atom) (zfG x.exp y.exp) := by cases x; simp only [zcs, zai.atom, zai.exp]
theorem zlS (x y : zad) : zcS x y = orI (zgW x.value y.value) (zcH x.ann y.ann) := by rcases x with ⟨v, ⟨f, l⟩⟩; simp only [zcS, zcH, zad.value, zad.ann]
theorem zlT (x y : zan) : zb0 x y = orI (zfG x.kind y.kind) (orI (zok x.row y.row) (orI (zfX x.args.l y.args.l) (orI (zfG x.func y.func) (orI (zcR x.items.l y.items.l) (orI (zfG x.op y.op) (zgW x.bound y.bound)))))) := by
 rcases x with ⟨k, r, ⟨f, a⟩, fn, ⟨g, i⟩, o, b⟩; simp only [zb0, zan.kind, zan.row, zan.args, zan.func, zan.items, zan.op, zan.bound]
mutual
def zcF : zal → Nat
 | .mk _ ⟨_, fs⟩ => zaB fs + 1
def zaB : List zai → Nat
 | [] => 0
 | x :: xs => zc4 x + zaB xs + 1
def zc4 : zai → Nat
 | .mk a _ => zbx a + 1
def zbx : zan → Nat
 | .mk _ _ ⟨_, as⟩ _ ⟨_, is⟩ _ b => zcv as + za9 is + b.text.length + 1
def zcv : List (Sl zal) → Nat
 | [] => 0
 | ⟨_, x⟩ :: xs => zak x + zcv xs + 1
def zak : List zal → Nat
 | [] => 0
 | x :: xs => zcF x + zak xs + 1
def za9 : List zad → Nat
 | [] => 0
 | x :: xs => zec x + za9 xs + 1
def zec : zad → Nat
 | .mk v ⟨_, l⟩ => zak l + v.text.length + 1
end
theorem zdm (x : zal) : zcF x = zaB x.factors.l + 1 := by rcases x with ⟨c, ⟨f, l⟩⟩; simp only [zcF, zal.factors]
theorem zcA (x : zai) : zc4 x = zbx x.atom + 1 := by cases x; simp only [zc4, zai.atom]
theorem ziG (x : zad) : zec x = zak x.ann.l + x.value.text.length + 1 := by rcases x with ⟨v, ⟨f, l⟩⟩; simp only [zec, zad.value, zad.ann]
theorem zcq (x : zan) : zbx x = zcv x.args.l + za9 x.items.l + x.bound.text.length + 1 := by
 rcases x with ⟨k, r, ⟨f, a⟩, fn, ⟨g, i⟩, o, b⟩; simp only [zbx, zan.args, zan.items, zan.bound]
theorem zcQ {l : List zai} {i : Nat} {x : zai} (h : l[i]? = some x) : zc4 x < zaB l := by
 induction l generalizing i with
 | nil => simp at h
 | cons y l ih => cases i with
   | zero => simp at h; subst h; simp [zaB]; omega
   | succ i => have := ih (by simpa using h); simp [zaB]; omega
theorem zdh {l : List zal} {i : Nat} {x : zal} (h : l[i]? = some x) : zcF x < zak l := by
 induction l generalizing i with
 | nil => simp at h
 | cons y l ih => cases i with
   | zero => simp at h; subst h; simp [zak]; omega
   | succ i => have := ih (by simpa using h); simp [zak]; omega
theorem zhJ {l : List zad} {i : Nat} {x : zad} (h : l[i]? = some x) : zec x < za9 l := by
 induction l generalizing i with
 | nil => simp at h
 | cons y l ih => cases i with
   | zero => simp at h; subst h; simp [za9]; omega
   | succ i => have := ih (by simpa using h); simp [za9]; omega
theorem zfy {l : List (Sl zal)} {i : Nat} {x : Sl zal} (h : l[i]? = some x) : zak x.l < zcv l := by
 induction l generalizing i with
 | nil => simp at h
 | cons y l ih => cases i with
   | zero => simp at h; subst h; cases y; simp [zcv]; omega
   | succ i => have := ih (by simpa using h); cases y; simp [zcv]; omega
theorem zbM (l : List zai) : l.length ≤ zaB l := by
 induction l with
 | nil => simp
 | cons y l ih => simp [zaB]; omega
theorem zb3 (l : List zal) : l.length ≤ zak l := by
 induction l with
 | nil => simp
 | cons y l ih => simp [zak]; omega
theorem zcz (l : List zad) : l.length ≤ za9 l := by
 induction l with
 | nil => simp
 | cons y l ih => simp [za9]; omega
theorem zd2 (l : List (Sl zal)) : l.length ≤ zcv l := by
 induction l with
 | nil => simp
 | cons y l ih => cases y; simp [zcv]; omega
def zld (n : Int) : Prop := -9223372036854775808 ≤ n ∧ n ≤ 9223372036854775807
def zu0 (r : zbw) : Prop := zld r.table ∧ zld r.seq
def zwv (v : Val) : Prop := zld v.kind ∧ zld v.int
mutual
def zqE : zal → Prop
 | .mk c ⟨_, fs⟩ => zld c ∧ zgO fs
def zgO : List zai → Prop
 | [] => True
 | x :: xs => zhv x ∧ zgO xs
def zhv : zai → Prop
 | .mk a e => zhG a ∧ zld e
def zhG : zan → Prop
 | .mk k r ⟨_, as⟩ f ⟨_, is⟩ o b => zld k ∧ zu0 r ∧ zvY as ∧ zld f ∧ zka is ∧ zld o ∧ zwv b
def zvY : List (Sl zal) → Prop
 | [] => True
 | ⟨_, x⟩ :: xs => zbv x ∧ zvY xs
def zbv : List zal → Prop
 | [] => True
 | x :: xs => zqE x ∧ zbv xs
def zka : List zad → Prop
 | [] => True
 | x :: xs => zxe x ∧ zka xs
def zxe : zad → Prop
 | .mk v ⟨_, l⟩ => zwv v ∧ zbv l
end
theorem zqD (x : zal) : zqE x ↔ zld x.coeff ∧ zgO x.factors.l := by rcases x with ⟨c, ⟨f, l⟩⟩; simp only [zqE, zal.coeff, zal.factors]
theorem zlU (x : zai) : zhv x ↔ zhG x.atom ∧ zld x.exp := by cases x; simp only [zhv, zai.atom, zai.exp]
theorem zqF (x : zad) : zxe x ↔ zwv x.value ∧ zbv x.ann.l := by rcases x with ⟨v, ⟨f, l⟩⟩; simp only [zxe, zad.value, zad.ann]
theorem ziF (x : zan) : zhG x ↔ zld x.kind ∧ zu0 x.row ∧ zvY x.args.l ∧ zld x.func ∧ zka x.items.l ∧ zld x.op ∧ zwv x.bound := by
 rcases x with ⟨k, r, ⟨f, a⟩, fn, ⟨g, i⟩, o, b⟩; simp only [zhG, zan.kind, zan.row, zan.args, zan.func, zan.items, zan.op, zan.bound]
theorem zoC (l : List zal) : zbv l ↔ ∀ x ∈ l, zqE x := by
 induction l with
 | nil => simp [zbv]
 | cons x l ih => simp [zbv, ih]
theorem zoE (l : List zai) : zgO l ↔ ∀ x ∈ l, zhv x := by
 induction l with
 | nil => simp [zgO]
 | cons x l ih => simp [zgO, ih]
theorem zoD (l : List zad) : zka l ↔ ∀ x ∈ l, zxe x := by
 induction l with
 | nil => simp [zka]
 | cons x l ih => simp [zka, ih]
theorem zu1 (l : List (Sl zal)) : zvY l ↔ ∀ x ∈ l, zbv x.l := by
 induction l with
 | nil => simp [zvY]
 | cons x l ih => cases x; simp [zvY, ih]
def zgx {α : Type} (f : α → Nat) : List α → Nat
 | [] => 0
 | x :: l => f x + zgx f l
theorem zsR (l : List zal) : zak l = zgx (fun x => zcF x + 1) l := by
 induction l with
 | nil => rfl
 | cons x l ih => simp only [zak, zgx, ih]; omega
theorem zoJ (l : List zai) : zaB l = zgx (fun x => zc4 x + 1) l := by
 induction l with
 | nil => rfl
 | cons x l ih => simp only [zaB, zgx, ih]; omega
theorem zsS (l : List zad) : za9 l = zgx (fun x => zec x + 1) l := by
 induction l with
 | nil => rfl
 | cons x l ih => simp only [za9, zgx, ih]; omega
theorem zGV (l : List (Sl zal)) : zcv l = zgx (fun x => zak x.l + 1) l := by
 induction l with
 | nil => rfl
 | cons x l ih => cases x; simp only [zcv, zgx, ih]; omega
def zIR (a : Sl zal) : Nat := zak a.l + 1
end Go.Ev
set_option linter.unusedVariables false
namespace Go.Ev
def sgn (b : Bool) : Int := if b then -1 else 1
def zbF (a b : Sl zai) : Int := zbV a.l b.l
def zcG (a b : Sl zad) : Int := zcR a.l b.l
noncomputable def znh (kk : Nat) (a : Int) (b : Int) : Option (Int) :=
 sel (
  some (-1)) (
  sel (
   some 1) (
   some 0) (decide (b < a))) (decide (a < b))
noncomputable def zvR (kk : Nat) (a : Bool) : Option (Int) :=
 sel (
  some (-1)) (
  some 1) (a)
noncomputable def ziY (kk : Nat) (a : zbw) (b : zbw) : Option (Int) :=
 sel (
  some (zfG a.table b.table)) (
  some (zfG a.seq b.seq)) ((zfG a.table b.table) != 0)
noncomputable def zlI (kk : Nat) (a : Val) (b : Val) : Option (Int) :=
 sel (
  some (sgn (decide (a.kind < b.kind)))) (
  sel (
   some (sgn (decide (a.int < b.int)))) (
   sel (
    some (sgn (zda a.text b.text))) (
    some 0) (!(a.text == b.text))) (a.int != b.int)) (a.kind != b.kind)
noncomputable def zdk (c2 : zan) (c3 : zan) (sz : Nat) (kk : Nat) : Nat → Int → Option (Out (Int) (Int))
 | 0, _ => none
 | k + 1, s1 =>
   sel (
    bnd (ix c2.args.l s1) fun (y4 : (Sl zal)) =>
    bnd (ix c3.args.l s1) fun (y5 : (Sl zal)) =>
    bnd (okP (zak y4.l + zak y5.l < sz)) fun _ =>
    sel (
     some (.ret (zcH y4 y5))) (
     zdk c2 c3 sz kk k (IntKind.wrap .i64 (s1 + 1))) ((zcH y4 y5) != 0)) (
    some (.done s1)) ((decide (s1 < (c2.args.l.length : Int))) && (decide (s1 < (c3.args.l.length : Int))))
noncomputable def zir (kk : Nat) (sz : Nat) (a : zan) (b : zan) : Option (Int) :=
 sel (
  some (zfG a.kind b.kind)) (
  sel (
   some (zok a.row b.row)) (
   zhy (zdk a b sz kk kk 0) (fun r => some r) fun (q7 : Int) =>
    sel (
     some (zfG (a.args.l.length : Int) (b.args.l.length : Int))) (
     sel (
      some (zfG a.func b.func)) (
      bnd (okP (za9 a.items.l + za9 b.items.l < sz)) fun _ =>
      sel (
       some (zcG a.items b.items)) (
       sel (
        some (zfG a.op b.op)) (
        some (zgW a.bound b.bound)) ((zfG a.op b.op) != 0)) ((zcG a.items b.items) != 0)) ((zfG a.func b.func) != 0)) ((zfG (a.args.l.length : Int) (b.args.l.length : Int)) != 0)) ((zok a.row b.row) != 0)) ((zfG a.kind b.kind) != 0)
noncomputable def zfQ (c1 : Sl zai) (c2 : Sl zai) (sz : Nat) (kk : Nat) : Nat → Int → Option (Out (Int) (Int))
 | 0, _ => none
 | k + 1, s3 =>
   sel (
    bnd (ix c1.l s3) fun (y4 : zai) =>
    bnd (ix c2.l s3) fun (y5 : zai) =>
    bnd (okP (zbx y4.atom + zbx y5.atom < sz)) fun _ =>
    sel (
     some (.ret (zb0 y4.atom y5.atom))) (
     sel (
      some (.ret (zfG y4.exp y5.exp))) (
      zfQ c1 c2 sz kk k (IntKind.wrap .i64 (s3 + 1))) ((zfG y4.exp y5.exp) != 0)) ((zb0 y4.atom y5.atom) != 0)) (
    some (.done s3)) ((decide (s3 < (c1.l.length : Int))) && (decide (s3 < (c2.l.length : Int))))
noncomputable def zgJ (kk : Nat) (sz : Nat) (a : (Sl zai)) (b : (Sl zai)) : Option (Int) :=
 zhy (zfQ a b sz kk kk 0) (fun r => some r) fun (q7 : Int) =>
  some (zfG (a.l.length : Int) (b.l.length : Int))
noncomputable def zgH (c1 : Sl zad) (c2 : Sl zad) (sz : Nat) (kk : Nat) : Nat → Int → Option (Out (Int) (Int))
 | 0, _ => none
 | k + 1, s3 =>
   sel (
    bnd (ix c1.l s3) fun (y4 : zad) =>
    bnd (ix c2.l s3) fun (y5 : zad) =>
    sel (
     some (.ret (zgW y4.value y5.value))) (
     bnd (okP (zak y4.ann.l + zak y5.ann.l < sz)) fun _ =>
     sel (
      some (.ret (zcH y4.ann y5.ann))) (
      zgH c1 c2 sz kk k (IntKind.wrap .i64 (s3 + 1))) ((zcH y4.ann y5.ann) != 0)) ((zgW y4.value y5.value) != 0)) (
    some (.done s3)) ((decide (s3 < (c1.l.length : Int))) && (decide (s3 < (c2.l.length : Int))))
noncomputable def zhB (kk : Nat) (sz : Nat) (a : (Sl zad)) (b : (Sl zad)) : Option (Int) :=
 zhy (zgH a b sz kk kk 0) (fun r => some r) fun (q7 : Int) =>
  some (zfG (a.l.length : Int) (b.l.length : Int))
noncomputable def zjT (c1 : Sl zal) (c2 : Sl zal) (sz : Nat) (kk : Nat) : Nat → Int → Option (Out (Int) (Int))
 | 0, _ => none
 | k + 1, s3 =>
   sel (
    bnd (ix c1.l s3) fun (y4 : zal) =>
    bnd (ix c2.l s3) fun (y5 : zal) =>
    bnd (okP (zaB y4.factors.l + zaB y5.factors.l < sz)) fun _ =>
    sel (
     some (.ret (zbF y4.factors y5.factors))) (
     sel (
      some (.ret (zfG y4.coeff y5.coeff))) (
      zjT c1 c2 sz kk k (IntKind.wrap .i64 (s3 + 1))) ((zfG y4.coeff y5.coeff) != 0)) ((zbF y4.factors y5.factors) != 0)) (
    some (.done s3)) ((decide (s3 < (c1.l.length : Int))) && (decide (s3 < (c2.l.length : Int))))
noncomputable def zlG (kk : Nat) (sz : Nat) (a : (Sl zal)) (b : (Sl zal)) : Option (Int) :=
 zhy (zjT a b sz kk kk 0) (fun r => some r) fun (q7 : Int) =>
  some (zfG (a.l.length : Int) (b.l.length : Int))
end Go.Ev
set_option linter.unusedVariables false
namespace Go.Ev
def zHv (a : Int) : Bool := false
def zqS : List Int → Int
 | [] => 0
 | x :: l => orI x (zqS l)
def orL (a : Sl Int) : Int := zqS a.l
def zeU (a b : zal) : Int := zbV a.factors.l b.factors.l
def zpo (a b : Sl (Sl zal)) : Int := zfX a.l b.l
noncomputable def zjZ (kk : Nat) (a : Int) : Option (Bool) :=
 some (a != a)
noncomputable def zis (kk : Nat) (a : Int) : Option (Bool) :=
 some (a != a)
noncomputable def zit (kk : Nat) (a : Int) (b : Int) : Option (Int) :=
 sel (
  sel (
   some 0) (
   some (-1)) ((zHv b))) (
  sel (
   some 1) (
   sel (
    some (-1)) (
    sel (
     some 1) (
     some 0) (decide (b < a))) (decide (a < b))) ((zHv b))) ((zHv a))
noncomputable def zi4 (kk : Nat) (a : Int) (b : Int) : Option (Int) :=
 sel (
  sel (
   some 0) (
   some (-1)) ((zHv b))) (
  sel (
   some 1) (
   sel (
    some (-1)) (
    sel (
     some 1) (
     some 0) (decide (b < a))) (decide (a < b))) ((zHv b))) ((zHv a))
noncomputable def zee (c1 : Sl Int) (c2 : Int) (kk : Nat) : Nat → Int → Option (Out (Int) (Int))
 | 0, _ => none
 | k + 1, s3 =>
   sel (
    bnd (ix c1.l s3) fun (y4 : Int) =>
    sel (
     some (.ret y4)) (
     zee c1 c2 kk k (IntKind.wrap .i64 (s3 + 1))) (y4 != 0)) (
    some (.done s3)) (decide (s3 < c2))
noncomputable def znn (kk : Nat) (a : (Sl Int)) : Option (Int) :=
 zhy (zee a (a.l.length : Int) kk kk 0) (fun r => some r) fun (q5 : Int) =>
  some 0
noncomputable def zjV (kk : Nat) (a : Val) (b : Val) : Option (Int) :=
 bnd (okP ((Sl.of [(zfG a.kind b.kind), (zfG a.int b.int), (zFk a.text b.text)]).l.length < 100)) fun _ =>
 some (orL (Sl.of [(zfG a.kind b.kind), (zfG a.int b.int), (zFk a.text b.text)]))
noncomputable def zgN (kk : Nat) (sz : Nat) (a : (Sl zal)) (b : (Sl zal)) : Option (Int) :=
 bnd (okP (8 * (zak a.l + zak b.l) + 6 < sz)) fun _ =>
 some (zcH a b)
noncomputable def zbr (c1 : Sl zal) (c2 : Sl zal) (c3 : Sl zal) (c4 : Int) (sz : Nat) (kk : Nat) : Nat → Int → Option (Out (Int) (Int))
 | 0, _ => none
 | k + 1, s5 =>
   sel (
    bnd (ix c3.l s5) fun (y6 : zal) =>
    sel (
     some (.ret 1)) (
     bnd (ix c2.l s5) fun (y7 : zal) =>
     bnd (okP (8 * (zcF y6 + zcF y7) + 5 < sz)) fun _ =>
     sel (
      some (.ret (zfa y6 y7))) (
      zbr c1 c2 c3 c4 sz kk k (IntKind.wrap .i64 (s5 + 1))) ((zfa y6 y7) != 0)) (decide ((c2.l.length : Int) ≤ s5))) (
    some (.done s5)) (decide (s5 < c4))
noncomputable def zbz (kk : Nat) (sz : Nat) (a : (Sl zal)) (b : (Sl zal)) : Option (Int) :=
 zhy (zbr a b a (a.l.length : Int) sz kk kk 0) (fun r => some r) fun (q9 : Int) =>
  sel (
   some (-1)) (
   some 0) (decide ((a.l.length : Int) < (b.l.length : Int)))
noncomputable def zfT (kk : Nat) (sz : Nat) (a : zal) (b : zal) : Option (Int) :=
 bnd (okP (8 * (zcF a + zcF b) + 4 < sz)) fun _ =>
 bnd (okP ((Sl.of [(zeU a b), (zfG a.coeff b.coeff)]).l.length < 100)) fun _ =>
 some (orL (Sl.of [(zeU a b), (zfG a.coeff b.coeff)]))
noncomputable def zei (kk : Nat) (sz : Nat) (a : zal) (b : zal) : Option (Int) :=
 bnd (okP (8 * (zaB a.factors.l + zaB b.factors.l) + 7 < sz)) fun _ =>
 some (zbF a.factors b.factors)
noncomputable def za6 (c1 : Sl zai) (c2 : Sl zai) (c3 : Sl zai) (c4 : Int) (sz : Nat) (kk : Nat) : Nat → Int → Option (Out (Int) (Int))
 | 0, _ => none
 | k + 1, s5 =>
   sel (
    bnd (ix c3.l s5) fun (y6 : zai) =>
    sel (
     some (.ret 1)) (
     bnd (ix c2.l s5) fun (y7 : zai) =>
     bnd (okP (8 * (zc4 y6 + zc4 y7) + 5 < sz)) fun _ =>
     sel (
      some (.ret (zcs y6 y7))) (
      za6 c1 c2 c3 c4 sz kk k (IntKind.wrap .i64 (s5 + 1))) ((zcs y6 y7) != 0)) (decide ((c2.l.length : Int) ≤ s5))) (
    some (.done s5)) (decide (s5 < c4))
noncomputable def zbe (kk : Nat) (sz : Nat) (a : (Sl zai)) (b : (Sl zai)) : Option (Int) :=
 zhy (za6 a b a (a.l.length : Int) sz kk kk 0) (fun r => some r) fun (q9 : Int) =>
  sel (
   some (-1)) (
   some 0) (decide ((a.l.length : Int) < (b.l.length : Int)))
noncomputable def zdH (kk : Nat) (sz : Nat) (a : zai) (b : zai) : Option (Int) :=
 bnd (okP (8 * (zbx a.atom + zbx b.atom) + 7 < sz)) fun _ =>
 bnd (okP ((Sl.of [(zb0 a.atom b.atom), (zfG a.exp b.exp)]).l.length < 100)) fun _ =>
 some (orL (Sl.of [(zb0 a.atom b.atom), (zfG a.exp b.exp)]))
noncomputable def zek (kk : Nat) (sz : Nat) (a : zan) (b : zan) : Option (Int) :=
 bnd (okP (8 * (zcv a.args.l + zcv b.args.l) + 6 < sz)) fun _ =>
 bnd (okP (8 * (za9 a.items.l + za9 b.items.l) + 6 < sz)) fun _ =>
 bnd (okP ((Sl.of [(zfG a.kind b.kind), (zfG a.row.table b.row.table), (zfG a.row.seq b.row.seq), (zpo a.args b.args), (zfG a.func b.func), (zcG a.items b.items), (zfG a.op b.op), (zgW a.bound b.bound)]).l.length < 100)) fun _ =>
 some (orL (Sl.of [(zfG a.kind b.kind), (zfG a.row.table b.row.table), (zfG a.row.seq b.row.seq), (zpo a.args b.args), (zfG a.func b.func), (zcG a.items b.items), (zfG a.op b.op), (zgW a.bound b.bound)]))
noncomputable def zbf (c1 : Sl (Sl zal)) (c2 : Sl (Sl zal)) (c3 : Sl (Sl zal)) (c4 : Int) (sz : Nat) (kk : Nat) : Nat → Int → Option (Out (Int) (Int))
 | 0, _ => none
 | k + 1, s5 =>
   sel (
    bnd (ix c3.l s5) fun (y6 : (Sl zal)) =>
    sel (
     some (.ret 1)) (
     bnd (ix c2.l s5) fun (y7 : (Sl zal)) =>
     bnd (okP (8 * (zak y6.l + zak y7.l) + 7 < sz)) fun _ =>
     sel (
      some (.ret (zcH y6 y7))) (
      zbf c1 c2 c3 c4 sz kk k (IntKind.wrap .i64 (s5 + 1))) ((zcH y6 y7) != 0)) (decide ((c2.l.length : Int) ≤ s5))) (
    some (.done s5)) (decide (s5 < c4))
noncomputable def zbp (kk : Nat) (sz : Nat) (a : (Sl (Sl zal))) (b : (Sl (Sl zal))) : Option (Int) :=
 zhy (zbf a b a (a.l.length : Int) sz kk kk 0) (fun r => some r) fun (q9 : Int) =>
  sel (
   some (-1)) (
   some 0) (decide ((a.l.length : Int) < (b.l.length : Int)))
noncomputable def za5 (c1 : Sl zad) (c2 : Sl zad) (c3 : Sl zad) (c4 : Int) (sz : Nat) (kk : Nat) : Nat → Int → Option (Out (Int) (Int))
 | 0, _ => none
 | k + 1, s5 =>
   sel (
    bnd (ix c3.l s5) fun (y6 : zad) =>
    sel (
     some (.ret 1)) (
     bnd (ix c2.l s5) fun (y7 : zad) =>
     bnd (okP (8 * (zec y6 + zec y7) + 5 < sz)) fun _ =>
     sel (
      some (.ret (zcS y6 y7))) (
      za5 c1 c2 c3 c4 sz kk k (IntKind.wrap .i64 (s5 + 1))) ((zcS y6 y7) != 0)) (decide ((c2.l.length : Int) ≤ s5))) (
    some (.done s5)) (decide (s5 < c4))
noncomputable def zbd (kk : Nat) (sz : Nat) (a : (Sl zad)) (b : (Sl zad)) : Option (Int) :=
 zhy (za5 a b a (a.l.length : Int) sz kk kk 0) (fun r => some r) fun (q9 : Int) =>
  sel (
   some (-1)) (
   some 0) (decide ((a.l.length : Int) < (b.l.length : Int)))
noncomputable def zej (kk : Nat) (sz : Nat) (a : zad) (b : zad) : Option (Int) :=
 bnd (okP (8 * (zak a.ann.l + zak b.ann.l) + 7 < sz)) fun _ =>
 bnd (okP ((Sl.of [(zgW a.value b.value), (zcH a.ann b.ann)]).l.length < 100)) fun _ =>
 some (orL (Sl.of [(zgW a.value b.value), (zcH a.ann b.ann)]))
end Go.Ev
namespace Go.Ev
def Evn (P : Nat → Prop) : Prop := ∃ N, ∀ n, N ≤ n → P n
structure zUA (p : Prop) : Prop where
 h : p
theorem evT : Evn fun _ => True := ⟨0, fun _ _ => trivial⟩
theorem Evn.and {P Q : Nat → Prop} (E : Evn P) (k : ∃ N, ∀ n, N ≤ n → Q n) : Evn fun n => P n ∧ Q n := by
 obtain ⟨M, E⟩ := E
 obtain ⟨N, k⟩ := k
 exact ⟨M + N, fun n h => ⟨E n (by omega), k n (by omega)⟩⟩
theorem Evn.lj {P Q : Nat → Prop} (E : Evn P) (k : ∃ N, ∀ n, N ≤ n → Q n) : ∃ N, zUA (∀ n, N ≤ n → Q n) ∧ Evn fun n => P n ∧ N ≤ n := by
 obtain ⟨N, k⟩ := k
 exact ⟨N, ⟨k⟩, E.and ⟨N, fun _ h => h⟩⟩
theorem Evn.lp {P : Nat → Prop} {Q : Nat → Nat → Prop} (E : Evn P) (k : ∃ N, ∀ n, N ≤ n → ∀ k, N ≤ k → Q n k) : ∃ N, zUA (∀ n, N ≤ n → Q n n) ∧ Evn fun n => P n ∧ N ≤ n := by
 obtain ⟨N, k⟩ := k
 exact ⟨N, ⟨fun n h => k n h n h⟩, E.and ⟨N, fun _ h => h⟩⟩
theorem Evn.s {P Q : Nat → Prop} (E : Evn P) (f : ∀ n, P n → Q (n + 1)) : ∃ N, ∀ n, N ≤ n → Q n := by
 obtain ⟨M, E⟩ := E
 refine ⟨M + 1, fun n h => ?_⟩
 obtain ⟨n, rfl⟩ := zS0 h
 exact f n (E n (by omega))
theorem Evn.j {P Q : Nat → Prop} (E : Evn P) (f : ∀ n, P n → Q n) : ∃ N, ∀ n, N ≤ n → Q n := by
 obtain ⟨M, E⟩ := E
 exact ⟨M, fun n h => f n (E n h)⟩
theorem Evn.l {P : Nat → Prop} {Q : Nat → Nat → Prop} (E : Evn P) (f : ∀ n k, P n → Q n (k + 1)) : ∃ N, ∀ n, N ≤ n → ∀ k, N ≤ k → Q n k := by
 obtain ⟨M, E⟩ := E
 refine ⟨M + 1, fun n h k hk => ?_⟩
 obtain ⟨k, rfl⟩ := zS0 hk
 exact f n k (E n (by omega))
theorem Evn.c {P : Nat → Prop} {I Q : Nat → Nat → Prop} (E : Evn P) (i : ∃ N, ∀ n, N ≤ n → ∀ k, N ≤ k → I n k) (f : ∀ n k, P n → zUA (I n k) → Q n (k + 1)) : ∃ N, ∀ n, N ≤ n → ∀ k, N ≤ k → Q n k := by
 obtain ⟨M, E⟩ := E
 obtain ⟨N, i⟩ := i
 refine ⟨M + N + 1, fun n h k hk => ?_⟩
 obtain ⟨k, rfl⟩ := zS0 hk
 exact f n k (E n (by omega)) ⟨i n (by omega) k (by omega)⟩
theorem em2 (p : Prop) : p ∨ (p = False) := (Classical.em p).imp id eq_false
section
variable {α : Type} {d : D} {m : Mem} {g T sz a b c' n : Nat} {c : α → List D} {l : List α} {r : Sl α} {Ts : List Nat}
@[go_sem] theorem zP3 (cells : List D) : zci (.ptr (.loc T 0) g 0 0) m T sz cells = (m (.loc T 0) = some (.rows g false true sz [cells])) := by
  simp [zci]
@[go_sem] theorem zOr (cells : List D) : zD2 (.ptr (.loc T 0) g 0 0) m T sz cells = (m (.loc T 0) = some (.rows g false false sz [cells])) := by
  simp [zD2]
@[go_sem] theorem zP1 : zUz (.own (.loc T 0) g 0 n) m T sz c l = (n = l.length ∧ m (.loc T 0) = some (.rows g false true sz (l.map c))) := by
  apply propext
  constructor
  · rintro ⟨g', h, k⟩; cases h; exact ⟨rfl, k⟩
  · rintro ⟨rfl, k⟩; exact ⟨g, rfl, k⟩
@[go_sem] theorem zNK (s : Str) (p : Nat) : zyC (.iter (.loc T 0) g) m T s p = (m (.loc T 0) = some (.siter g s p)) := by
  simp [zyC]
@[go_sem] theorem zRJ (rows : List Row) : zuH (.sl .nil rows) m Ts sz c l = (rows = [] ∧ l = []) := by
  apply propext
  constructor
  · rintro (⟨h, k⟩ | ⟨T, _, g', h, _⟩)
    · cases h; exact ⟨rfl, k⟩
    · cases h
  · rintro ⟨rfl, k⟩; exact .inl ⟨rfl, k⟩
@[go_sem] theorem zP2 : zuH (.own (.loc T 0) g 0 n) m Ts sz c l = (Ts.contains T = true ∧ n = l.length ∧ m (.loc T 0) = some (.rows g false true sz (l.map c)) ∧ (l = []) = False) := by
  apply propext
  constructor
  · rintro (⟨h, k⟩ | ⟨T, hT, g', h, k, k'⟩)
    · cases h
    · cases h; exact ⟨by simpa using hT, rfl, k, k'⟩
  · rintro ⟨hT, rfl, k, k'⟩; exact .inr ⟨T, by simpa using hT, g, rfl, k, k'⟩
@[go_sem] theorem zPZ : zFD (.own (.loc T 0) g 0 n) m Ts sz c ⟨.any, l⟩ = (Ts.contains T = true ∧ n = l.length ∧ m (.loc T 0) = some (.rows g false true sz (l.map c))) := by
  apply propext
  constructor
  · rintro (h | ⟨T, hT, l, hl, g', h, k⟩)
    · cases h
    · cases h; cases hl; exact ⟨by simpa using hT, rfl, k⟩
  · rintro ⟨hT, rfl, k⟩; exact .inr ⟨T, by simpa using hT, l, rfl, g, rfl, k⟩
@[go_sem] theorem zLV (f : Fl) (rows : List Row) : zFD (.sl f rows) m Ts sz c r = (.sl f rows = dSl c r) := by
  apply propext
  constructor
  · rintro (h | ⟨T, hT, l, hl, g', h, k⟩)
    · exact h
    · cases h
  · exact .inl
@[go_sem] theorem zP0 (s : Sl α) : zFD (dSl c s) m Ts sz c r = (dSl c s = dSl c r) := zLV _ _
theorem zC9 (h : zuH d m Ts sz c l) : (d = .sl .nil [] ∧ l = []) ∨ ∃ T, T ∈ Ts ∧ ∃ g, d = .own (.loc T 0) g 0 l.length ∧ m (.loc T 0) = some (.rows g false true sz (l.map c)) ∧ (l = []) = False := h
theorem zt2 (h : zuH d m [a] sz c l) : (d = .sl .nil [] ∧ l = []) ∨ ∃ g, d = .own (.loc a 0) g 0 l.length ∧ m (.loc a 0) = some (.rows g false true sz (l.map c)) ∧ (l = []) = False := by
 simpa using zC9 h
theorem zMO (h : zuH d m [a, b, c'] sz c l) : (d = .sl .nil [] ∧ l = []) ∨ (∃ g, d = .own (.loc a 0) g 0 l.length ∧ m (.loc a 0) = some (.rows g false true sz (l.map c)) ∧ (l = []) = False) ∨ (∃ g, d = .own (.loc b 0) g 0 l.length ∧ m (.loc b 0) = some (.rows g false true sz (l.map c)) ∧ (l = []) = False) ∨ ∃ g, d = .own (.loc c' 0) g 0 l.length ∧ m (.loc c' 0) = some (.rows g false true sz (l.map c)) ∧ (l = []) = False := by
 simpa using zC9 h
theorem zJJ (h : zFD d m Ts sz c r) : d = dSl c r ∨ ∃ T, T ∈ Ts ∧ ∃ l, r = Sl.of l ∧ ∃ g, d = .own (.loc T 0) g 0 l.length ∧ m (.loc T 0) = some (.rows g false true sz (l.map c)) := h
theorem zJK (h : zFD d m [a] sz c r) : d = dSl c r ∨ ∃ l g, r = Sl.of l ∧ d = .own (.loc a 0) g 0 l.length ∧ m (.loc a 0) = some (.rows g false true sz (l.map c)) := by
 rcases zJJ h with h | ⟨T, hT, l, hl, g, h', k⟩
 · exact .inl h
 · obtain rfl := List.mem_singleton.1 hT; exact .inr ⟨l, g, hl, h', k⟩
end
theorem zgf : type_of% (And.intro zav (And.intro zaT (And.intro zij (And.intro za8 (And.intro zaS (And.intro zb1 (And.intro zc2 (zbP)))))))) := And.intro zav (And.intro zaT (And.intro zij (And.intro za8 (And.intro zaS (And.intro zb1 (And.intro zc2 (zbP)))))))
end Go.Ev
namespace Go.Ev
mutual
theorem ztF : ∀ (a : D), znt a a = true
 | .bool a => by simp [znt]
 | .int j a => by simp [znt]
 | .str a => by simp [znt]
 | .nilp => rfl
 | .ptr b g r o => by simp [znt]
 | .eptr a o => by simp [znt, zkd a]
 | .sl f a => by simp [znt, zu4 a]
 | .own b g r o => by simp [znt]
 | .nilm => rfl
 | .map b g => by simp [znt]
 | .iter b g => by simp [znt]
 | .fn f a b => by simp [znt, zkd a, zkd b]
 | .nilf => rfl
 | .iface t v => by simp [znt, ztF v]
 | .nili => rfl
 | .agg a => by simp [znt, zkd a]
 | .tup a => by simp [znt, zkd a]
 | .unk => rfl
theorem zkd : ∀ (l : List D), zu5 l l = true
 | [] => rfl
 | a :: r => by simp [zu5, ztF a, zkd r]
theorem zu4 : ∀ (l : List (List D)), zAH l l = true
 | [] => rfl
 | a :: r => by simp [zAH, zkd a, zu4 r]
end
theorem zzQ : ∀ (l : List Ent), zCz l l = true
 | [] => rfl
 | a :: r => by simp [zCz, ztF, zzQ r]
theorem zGY (a : Blk) : zIZ a a = true := by cases a <;> simp [zIZ, zu4, zzQ]
theorem zxu : ∀ (l : List Blk), ztG l l = true
 | [] => rfl
 | a :: r => by simp [ztG, zGY, zxu r]
theorem zAo {R : Option Res} : ∀ (l : List (Option Res)), l ≠ [] → (∀ r ∈ l, r = R) → zyl l = R
 | [], h, _ => absurd rfl h
 | [r], _, h => h r (by simp)
 | r :: q :: l, _, h => by
   have h1 := zAo (q :: l) (by simp) (fun x hx => h x (by simp [List.mem_cons.1 hx]))
   have h2 := h r (by simp)
   rw [zyl, h1, h2]
   cases R with
   | none => simp [zEz]
   | some a => simp [zEz, ztF, zxu]
theorem zIC {k : D × Ups → Option Res} {R : Option Res} {l : List (D × Ups)} (hl : l ≠ []) (h : ∀ r ∈ l, k r = R) : ways k l = R := by
 match l, hl, h with
 | [r], _, h => exact h r (by simp)
 | r :: q :: l, _, h =>
   rw [ways]
   exact zAo _ (by simp) (fun x hx => by obtain ⟨y, hy, rfl⟩ := List.mem_map.1 hx; exact h y hy)
theorem zIB {k : D × Ups → Option Res} {t : Tok k} {R : Option Res} {l : List (D × Ups)} (hl : l ≠ []) (h : ∀ r ∈ l, k r = R) : zNb k t l = R := zIC hl h
end Go.Ev
namespace Go.Ev
open Go
def zzb (rs : List Row) (i j : Nat) : Option D := bnd rs[i]? fun r => r[j]?
abbrev at_ (b o : Nat) : Addr := ⟨b, o, none⟩
inductive zkQ (S : Nat → Prop) (w : World) : Value → D → Prop where
 | bool (b : Bool) : zkQ S w (.bool b) (.bool b)
 | int (k : IntKind) (n : Int) : zkQ S w (.int k n) (.int k n)
 | str (s : List UInt8) : zkQ S w (.string ⟨s.toArray⟩) (.str s)
 | nilp : zkQ S w (.pointer none) .nilp
 | nilm : zkQ S w (.map none) .nilm
 | nilf : zkQ S w .nilFunc .nilf
 | nili : zkQ S w .nilIface .nili
 | iface (t : TypeId) (v : Value) (d : D) (h : zkQ S w v d) : zkQ S w (.iface t v) (.iface t d)
 | nilsl : zkQ S w (.slice none 0 0) (.sl .nil [])
 | esl (f : Fl) (a : Addr) (hf : f ≠ .nil) : zkQ S w (.slice (some a) 0 0) (.sl f [])
 | sl (f : Fl) (rs : List Row) (b o cap sz : Nat) (u : Nat → Nat → Value) (hf : f ≠ .nil) (hfull : f = .full → cap = rs.length) (hcap : rs.length ≤ cap) (hsz : 0 < sz)
  (hlen : ∀ r ∈ rs, r.length = sz) (hst : rs ≠ [] → S b) (hc : ∀ i j d, zzb rs i j = some d → w.cell? (at_ b (o + (i * sz + j))) = some (u i j))
  (hr : ∀ i j d, zzb rs i j = some d → zkQ S w (u i j) d) (hcell : ∀ i j d, zzb rs i j = some d → cell d = true) : zkQ S w (.slice (some (at_ b o)) rs.length cap) (.sl f rs)
def zjA (w : World) (r : Nat) : Nat :=
 match w.heap[r]? with
 | some (.cells c _ _) => c.size
 | _ => 0
abbrev Loc := Nm → Nat × Nat
inductive Rep (S : Nat → Prop) (w : World) (ι : Loc) (m : Mem) : Value → D → Prop where
 | ext (v : Value) (d : D) (h : zkQ S w v d) : Rep S w ι m v d
 | ptr (b : Nm) (g r o : Nat) (a : Addr) (hb : ∃ k, m b = some k ∧ g ≤ k.gen)
  (ha : ∀ fz cl sz rs, m b = some (.rows g fz cl sz rs) → a = at_ (ι b).1 ((ι b).2 + (r * sz + o))) : Rep S w ι m (.pointer (some a)) (.ptr b g r o)
 | eptr (row : Row) (o b base : Nat) (u : Nat → Value) (hst : row ≠ [] → S b) (hc : ∀ (i : Nat) (d : D), row[i]? = some d → w.cell? (at_ b (base + i)) = some (u i))
  (hr : ∀ (i : Nat) (d : D), row[i]? = some d → zkQ S w (u i) d) (hcell : ∀ (i : Nat) (d : D), row[i]? = some d → cell d = true) : Rep S w ι m (.pointer (some (at_ b (base + o)))) (.eptr row o)
 | own (b : Nm) (g off len cap : Nat) (a : Addr) (hb : ∃ k, m b = some k ∧ g ≤ k.gen) (hcap : len ≤ cap) (hat : a.spot = none)
  (ha : ∀ fz cl sz rs, m b = some (.rows g fz cl sz rs) → (0 < cap → a = at_ (ι b).1 ((ι b).2 + off * sz)) ∧ (ι b).2 + (off + cap) * sz ≤ zjA w (ι b).1) :
  Rep S w ι m (.slice (some a) len cap) (.own b g off len)
 | map (b : Nm) (g r : Nat) (hb : ∃ k, m b = some k ∧ g ≤ k.gen) (ha : ∀ cl es c, m b = some (.map g cl es c) → r = (ι b).1) : Rep S w ι m (.map (some r)) (.map b g)
 | iter (b : Nm) (g r : Nat) (hb : ∃ k, m b = some k ∧ g ≤ k.gen) (ha : ∀ k, m b = some k → k.gen = g → r = (ι b).1) : Rep S w ι m (.pointer (some (at_ r 0))) (.iter b g)
 | fn (f : Fn) (vf vc : Array Value) (fi ca : List D) (l1 : vf.size = fi.length) (l2 : vc.size = ca.length)
  (h1 : ∀ (i : Nat) (v : Value) (d : D), vf[i]? = some v → fi[i]? = some d → Rep S w ι m v d) (h2 : ∀ (i : Nat) (v : Value) (d : D), vc[i]? = some v → ca[i]? = some d → Rep S w ι m v d) : Rep S w ι m (.func f vf vc) (.fn f fi ca)
 | iface (t : TypeId) (v : Value) (d : D) (h : Rep S w ι m v d) : Rep S w ι m (.iface t v) (.iface t d)
 | agg (cs : Array Value) (ds : List D) (l : cs.size = ds.length) (h : ∀ (i : Nat) (v : Value) (d : D), cs[i]? = some v → ds[i]? = some d → Rep S w ι m v d) (hcell : ∀ d ∈ ds, cell d = true) : Rep S w ι m (.agg cs) (.agg ds)
 | tup (cs : Array Value) (ds : List D) (l : cs.size = ds.length) (h : ∀ (i : Nat) (v : Value) (d : D), cs[i]? = some v → ds[i]? = some d → Rep S w ι m v d) : Rep S w ι m (.tuple cs) (.tup ds)
 | unk (v : Value) : Rep S w ι m v .unk
def ziD : Blk → Blk → Prop
 | .rows g _ _ sz _, .rows g' _ _ sz' _ => g = g' ∧ sz = sz'
 | .map g _ _ _, .map g' _ _ _ => g = g'
 | .siter g _ _, .siter g' _ _ => g = g'
 | .miter g _ _ _ _, .miter g' _ _ _ _ => g = g'
 | _, _ => False
theorem ziD.refl (k : Blk) : ziD k k := by cases k <;> simp [ziD]
theorem ziD.gen {k k' : Blk} (h : ziD k k') : k.gen = k'.gen := by
 cases k <;> cases k' <;> simp_all [ziD, Blk.gen]
theorem ziD.trans {a b c : Blk} (h : ziD a b) (k : ziD b c) : ziD a c := by
 cases a <;> cases b <;> simp_all [ziD] <;> cases c <;> simp_all
structure Ext (S : Nat → Prop) (w : World) (ι : Loc) (m : Mem) (S' : Nat → Prop) (w' : World) (ι' : Loc) (m' : Mem) : Prop where
 st : ∀ r, S r → S' r
 old : ∀ r, S r → w'.heap[r]? = w.heap[r]?
 blk : ∀ b k, m b = some k → ∃ k', m' b = some k' ∧ (k.gen < k'.gen ∨ (ziD k k' ∧ ι' b = ι b ∧ zjA w (ι b).1 ≤ zjA w' (ι b).1))
theorem Ext.refl (S : Nat → Prop) (w : World) (ι : Loc) (m : Mem) : Ext S w ι m S w ι m :=
 ⟨fun _ h => h, fun _ _ => rfl, fun _ k h => ⟨k, h, .inr ⟨ziD.refl k, rfl, Nat.le_refl _⟩⟩⟩
theorem Ext.trans {S S' S'' : Nat → Prop} {w w' w'' : World} {ι ι' ι'' : Loc} {m m' m'' : Mem} (h : Ext S w ι m S' w' ι' m') (k : Ext S' w' ι' m' S'' w'' ι'' m'') : Ext S w ι m S'' w'' ι'' m'' := by
 refine ⟨fun r hr => k.st r (h.st r hr), fun r hr => (k.old r (h.st r hr)).trans (h.old r hr), fun b x hx => ?_⟩
 obtain ⟨y, hy, hxy⟩ := h.blk b x hx
 obtain ⟨z, hz, hyz⟩ := k.blk b y hy
 refine ⟨z, hz, ?_⟩
 rcases hxy with hxy | ⟨s1, i1, b1⟩
 · rcases hyz with hyz | ⟨s2, _, _⟩
   · exact .inl (Nat.lt_trans hxy hyz)
   · exact .inl (s2.gen ▸ hxy)
 · rcases hyz with hyz | ⟨s2, i2, b2⟩
   · exact .inl (s1.gen ▸ hyz)
   · rw [i1] at i2 b2
     exact .inr ⟨s1.trans s2, i2, Nat.le_trans b1 b2⟩
theorem zui {w w' : World} {b o : Nat} (h : w'.heap[b]? = w.heap[b]?) : w'.cell? (at_ b o) = w.cell? (at_ b o) := World.cell?_of_block (w := w) h
theorem zNP {rs : List Row} {i j : Nat} {d : D} (h : zzb rs i j = some d) : rs ≠ [] := by
 intro e; subst e; simp [zzb, bnd] at h
theorem zHF {α : Type} {l : List α} {i : Nat} {d : α} (h : l[i]? = some d) : l ≠ [] := by
 intro e; subst e; simp at h
theorem zkQ.mono {S S' : Nat → Prop} {w w' : World} {v : Value} {d : D} (h : zkQ S w v d) (hS : ∀ r, S r → S' r) (hw : ∀ r, S r → w'.heap[r]? = w.heap[r]?) : zkQ S' w' v d := by
 induction h with
 | bool b => exact .bool b
 | int k n => exact .int k n
 | str s => exact .str s
 | nilp => exact .nilp
 | nilm => exact .nilm
 | nilf => exact .nilf
 | nili => exact .nili
 | iface t v d _ ih => exact .iface t v d ih
 | nilsl => exact .nilsl
 | esl f a hf => exact .esl f a hf
 | sl f rs b o cap sz u hf hfull hcap hsz hlen hst hc _ hcell ih =>
   exact .sl f rs b o cap sz u hf hfull hcap hsz hlen (fun h => hS _ (hst h)) (fun i j d h => by rw [zui (hw _ (hst (zNP h)))]; exact hc i j d h) ih hcell
theorem Rep.ext' {S S' : Nat → Prop} {w w' : World} {ι ι' : Loc} {m m' : Mem} {v : Value} {d : D} (h : Rep S w ι m v d) (e : Ext S w ι m S' w' ι' m') : Rep S' w' ι' m' v d := by
 have live : ∀ b g, (∃ k, m b = some k ∧ g ≤ k.gen) → ∃ k', m' b = some k' ∧ g ≤ k'.gen := by
  rintro b g ⟨k, hk, hg⟩
  obtain ⟨k', hk', hh⟩ := e.blk b k hk
  refine ⟨k', hk', ?_⟩
  rcases hh with hh | ⟨s, _, _⟩
  · omega
  · have := s.gen; omega
 have back : ∀ b g k', (∃ k, m b = some k ∧ g ≤ k.gen) → m' b = some k' → k'.gen = g → ∃ k, m b = some k ∧ ziD k k' ∧ ι' b = ι b ∧ zjA w (ι b).1 ≤ zjA w' (ι b).1 := by
  rintro b g k' ⟨k, hk, hg⟩ hk' hg'
  obtain ⟨k2, hk2, hh⟩ := e.blk b k hk
  rw [hk'] at hk2
  obtain rfl := Option.some.inj hk2
  rcases hh with hh | ⟨s, i, z⟩
  · omega
  · exact ⟨k, hk, s, i, z⟩
 induction h with
 | ext v d h => exact .ext v d (h.mono e.st e.old)
 | ptr b g r o a hb ha =>
   refine .ptr b g r o a (live b g hb) fun fz cl sz rs hm => ?_
   obtain ⟨k, hk, s, i, _⟩ := back b g _ hb hm rfl
   cases k with
   | rows g2 fz2 cl2 sz2 rs2 =>
     simp only [ziD] at s
     obtain ⟨rfl, rfl⟩ := s
     rw [i]; exact ha _ _ _ _ hk
   | map _ _ _ _ => exact s.elim
   | siter _ _ _ => exact s.elim
   | miter _ _ _ _ _ => exact s.elim
 | eptr row o b base u hst hc hr hcell =>
   exact .eptr row o b base u (fun h => e.st _ (hst h)) (fun i d h => by rw [zui (e.old _ (hst (zHF h)))]; exact hc i d h) (fun i d h => (hr i d h).mono e.st e.old) hcell
 | own b g off len cap a hb hcap hat ha =>
   refine .own b g off len cap a (live b g hb) hcap hat fun fz cl sz rs hm => ?_
   obtain ⟨k, hk, s, i, z⟩ := back b g _ hb hm rfl
   cases k with
   | rows g2 fz2 cl2 sz2 rs2 =>
     simp only [ziD] at s
     obtain ⟨rfl, rfl⟩ := s
     rw [i]
     obtain ⟨h1, h2⟩ := ha _ _ _ _ hk
     exact ⟨h1, Nat.le_trans h2 z⟩
   | map _ _ _ _ => exact s.elim
   | siter _ _ _ => exact s.elim
   | miter _ _ _ _ _ => exact s.elim
 | map b g r hb ha =>
   refine .map b g r (live b g hb) fun cl es c hm => ?_
   obtain ⟨k, hk, s, i, _⟩ := back b g _ hb hm rfl
   cases k with
   | map g2 cl2 es2 c2 =>
     simp only [ziD] at s
     subst s
     rw [i]; exact ha _ _ _ hk
   | rows _ _ _ _ _ => exact s.elim
   | siter _ _ _ => exact s.elim
   | miter _ _ _ _ _ => exact s.elim
 | iter b g r hb ha =>
   refine .iter b g r (live b g hb) fun k' hm hg => ?_
   obtain ⟨k, hk, s, i, _⟩ := back b g _ hb hm hg
   rw [i]; exact ha k hk (s.gen.trans hg)
 | fn f vf vc fi ca l1 l2 _ _ ih1 ih2 => exact .fn f vf vc fi ca l1 l2 ih1 ih2
 | iface t v d _ ih => exact .iface t v d ih
 | agg cs ds l _ hcell ih => exact .agg cs ds l ih hcell
 | tup cs ds l _ ih => exact .tup cs ds l ih
 | unk v => exact .unk v
end Go.Ev
namespace Go.Ev
open Go
def zha : Blk → Bool
 | .rows _ fz _ _ _ => fz
 | .map _ _ _ _ => false
 | .siter _ _ _ => false
 | .miter _ _ _ _ _ => false
structure zti (S : Nat → Prop) (w : World) (ι : Loc) (m : Mem) (cl : Bool) (e : MapEntry) (d : Ent) : Prop where
 key : zkQ S w e.key d.key
 val : Rep S w ι m e.val d.val
 born : e.born = d.born
 still : cl = true → ids d.val = []
def zqA (S : Nat → Prop) (w : World) (ι : Loc) (m : Mem) (r o : Nat) : Blk → Prop
 | .rows _ fz cl sz rs => ∃ (cur : Array Value) (e : TypeId) (lo hi : Nat), w.heap[r]? = some (.cells cur e (lo, hi)) ∧ (fz = false → ∀ x, x < cur.size → ¬(lo ≤ x ∧ x < hi)) ∧ 0 < sz ∧
  (∀ row ∈ rs, row.length = sz) ∧ o + rs.length * sz ≤ cur.size ∧
  ∀ i j d, zzb rs i j = some d → ∃ u, cur[o + (i * sz + j)]? = some u ∧ Rep S w ι m u d ∧ cell d = true ∧ (cl = true → zkQ S w u d)
 | .map _ cl es c => ∃ ents : Array MapEntry, w.heap[r]? = some (.map ents c) ∧ ents.size = es.length ∧ ∀ (i : Nat) (e : MapEntry) (d : Ent), ents[i]? = some e → es[i]? = some d → zti S w ι m cl e d
 | .siter _ s pos => w.heap[r]? = some (.stringIter ⟨s.toArray⟩ pos)
 | .miter _ mm since seen last => ∃ x, w.heap[r]? = some (.mapIter x since seen.toArray last) ∧ (mm = none → x = none) ∧ ∀ q, mm = some q → ∃ y, x = some y ∧ Rep S w ι m (.map (some y)) (.map q.1 q.2)
theorem zqA.lt {S : Nat → Prop} {w : World} {ι : Loc} {m : Mem} {r o : Nat} {k : Blk} (h : zqA S w ι m r o k) : r < w.heap.size := by
 have : ∃ x, w.heap[r]? = some x := by
  cases k with
  | rows g fz cl sz rs => obtain ⟨cur, e, lo, hi, h1, _⟩ := h; exact ⟨_, h1⟩
  | map g cl es c => obtain ⟨ents, h1, _⟩ := h; exact ⟨_, h1⟩
  | siter g s p => exact ⟨_, h⟩
  | miter g mm since seen last => obtain ⟨x, h1, _⟩ := h; exact ⟨_, h1⟩
 obtain ⟨x, hx⟩ := this
 rcases Nat.lt_or_ge r w.heap.size with h' | h'
 · exact h'
 · simp [Array.getElem?_eq_none h'] at hx
theorem zqA.mono {S S' : Nat → Prop} {w w' : World} {ι ι' : Loc} {m m' : Mem} {r o : Nat} {k : Blk} (h : zqA S w ι m r o k) (e : Ext S w ι m S' w' ι' m') (hw : w'.heap[r]? = w.heap[r]?) :
 zqA S' w' ι' m' r o k := by
 cases k with
 | rows g fz cl sz rs =>
   obtain ⟨cur, t, lo, hi, h1, h2, h3, h4, h5, h6⟩ := h
   refine ⟨cur, t, lo, hi, hw.trans h1, h2, h3, h4, h5, fun i j d hd => ?_⟩
   obtain ⟨u, a1, a2, a3, a4⟩ := h6 i j d hd
   exact ⟨u, a1, a2.ext' e, a3, fun hc => (a4 hc).mono e.st e.old⟩
 | map g cl es c =>
   obtain ⟨ents, h1, h2, h3⟩ := h
   refine ⟨ents, hw.trans h1, h2, fun i x d hx hd => ?_⟩
   obtain ⟨k1, k2, k3, k4⟩ := h3 i x d hx hd
   exact ⟨k1.mono e.st e.old, k2.ext' e, k3, k4⟩
 | siter g s p => exact hw.trans h
 | miter g mm since seen last =>
   obtain ⟨x, h1, h2, h3⟩ := h
   refine ⟨x, hw.trans h1, h2, fun q hq => ?_⟩
   obtain ⟨y, h4, h5⟩ := h3 q hq
   exact ⟨y, h4, h5.ext' e⟩
structure Sim (S : Nat → Prop) (w : World) (ι : Loc) (m : Mem) : Prop where
 own : ∀ b k, m b = some k → zqA S w ι m (ι b).1 (ι b).2 k
 inj : ∀ b b', m b ≠ none → m b' ≠ none → (ι b).1 = (ι b').1 → b = b'
 apart : ∀ b k, m b = some k → zha k = false → ¬ S (ι b).1
 fz : ∀ b k, m b = some k → zha k = true → S (ι b).1
 lt : ∀ r, S r → r < w.heap.size
structure Pg (S : Nat → Prop) (w : World) (ι : Loc) (m : Mem) (S' : Nat → Prop) (w' : World) (ι' : Loc) (m' : Mem) : Prop where
 ext : Ext S w ι m S' w' ι' m'
 os : w'.os = w.os
 tape : w'.tape = w.tape
 output : w'.output = w.output
 size : w.heap.size ≤ w'.heap.size
 keep : ∀ r, r < w.heap.size → (∀ b k, m b = some k → zha k = false → (ι b).1 ≠ r) → w'.heap[r]? = w.heap[r]?
 stB : ∀ r, S' r → S r ∨ w.heap.size ≤ r ∨ ∃ b k, m b = some k ∧ zha k = false ∧ (ι b).1 = r
 img : ∀ b k', m' b = some k' → zha k' = false → w.heap.size ≤ (ι' b).1 ∨ ∃ b0 k0, m b0 = some k0 ∧ zha k0 = false ∧ (ι b0).1 = (ι' b).1
 any : ∀ b k', m' b = some k' → w.heap.size ≤ (ι' b).1 ∨ ∃ b0 k0, m b0 = some k0 ∧ (ι b0).1 = (ι' b).1
theorem Pg.refl (S : Nat → Prop) (w : World) (ι : Loc) (m : Mem) : Pg S w ι m S w ι m :=
 ⟨Ext.refl _ _ _ _, rfl, rfl, rfl, Nat.le_refl _, fun _ _ _ => rfl, fun _ h => .inl h, fun b k h hf => .inr ⟨b, k, h, hf, rfl⟩, fun b k h => .inr ⟨b, k, h, rfl⟩⟩
theorem Pg.trans {S S' S'' : Nat → Prop} {w w' w'' : World} {ι ι' ι'' : Loc} {m m' m'' : Mem} (h : Pg S w ι m S' w' ι' m') (k : Pg S' w' ι' m' S'' w'' ι'' m'') : Pg S w ι m S'' w'' ι'' m'' := by
 refine ⟨h.ext.trans k.ext, k.os.trans h.os, k.tape.trans h.tape, k.output.trans h.output, Nat.le_trans h.size k.size, fun r hr hn => ?_, fun r hr => ?_, fun b x hx hf => ?_, fun b x hx => ?_⟩
 · rw [k.keep r (Nat.lt_of_lt_of_le hr h.size) (fun b x hx hf e => ?_), h.keep r hr hn]
   rcases h.img b x hx hf with h1 | ⟨b0, k0, h1, h2, h3⟩
   · omega
   · exact hn b0 k0 h1 h2 (h3.trans e)
 · rcases k.stB r hr with h1 | h1 | ⟨b, x, hx, hf, e⟩
   · exact h.stB r h1
   · exact .inr (.inl (Nat.le_trans h.size h1))
   · rcases h.img b x hx hf with h2 | ⟨b0, k0, h2, h3, h4⟩
     · exact .inr (.inl (e ▸ h2))
     · exact .inr (.inr ⟨b0, k0, h2, h3, h4.trans e⟩)
 · rcases k.img b x hx hf with h1 | ⟨b1, k1, h1, h2, h3⟩
   · exact .inl (Nat.le_trans h.size h1)
   · rcases h.img b1 k1 h1 h2 with h4 | ⟨b0, k0, h4, h5, h6⟩
     · exact .inl (h3 ▸ h4)
     · exact .inr ⟨b0, k0, h4, h5, h6.trans h3⟩
 · rcases k.any b x hx with h1 | ⟨b1, k1, h1, h3⟩
   · exact .inl (Nat.le_trans h.size h1)
   · rcases h.any b1 k1 h1 with h4 | ⟨b0, k0, h4, h6⟩
     · exact .inl (h3 ▸ h4)
     · exact .inr ⟨b0, k0, h4, h6.trans h3⟩
def Loc.upd (ι : Loc) (b : Nm) (p : Nat × Nat) : Loc := fun x => if x = b then p else ι x
@[simp] theorem Loc.upd_same (ι : Loc) (b : Nm) (p : Nat × Nat) : (ι.upd b p) b = p := by simp [Loc.upd]
theorem Loc.upd_ne (ι : Loc) {b c : Nm} (p : Nat × Nat) (h : c ≠ b) : (ι.upd b p) c = ι c := by simp [Loc.upd, h]
@[simp] theorem Mem.upd_same (m : Mem) (b : Nm) (k : Blk) : (m.upd b k) b = some k := by simp [Mem.upd]
theorem Mem.upd_ne (m : Mem) {b c : Nm} (k : Blk) (h : c ≠ b) : (m.upd b k) c = m c := by simp [Mem.upd, h]
theorem zuk {w w' : World} {r : Nat} (h : w'.heap[r]? = w.heap[r]?) : zjA w' r = zjA w r := by simp [zjA, h]
theorem Mem.upd_some {m : Mem} {b c : Nm} {k k' : Blk} (h : (m.upd b k) c = some k') : (c = b ∧ k' = k) ∨ (c ≠ b ∧ m c = some k') := by
 by_cases e : c = b
 · subst e; rw [Mem.upd_same] at h; exact .inl ⟨rfl, (Option.some.inj h).symm⟩
 · rw [Mem.upd_ne _ _ e] at h; exact .inr ⟨e, h⟩
theorem zrM {S : Nat → Prop} {w w' : World} {ι : Loc} {m : Mem} (hs : Sim S w ι m) (b : Nm) (k' : Blk) (r' o' : Nat)
 (hos : w'.os = w.os) (htape : w'.tape = w.tape) (hout : w'.output = w.output) (hsz : w.heap.size ≤ w'.heap.size)
 (hkeep : ∀ r, r < w.heap.size → r ≠ r' → w'.heap[r]? = w.heap[r]?)
 (hr : (w.heap.size ≤ r') ∨ (∃ k, m b = some k ∧ zha k = false ∧ r' = (ι b).1))
 (hgen : ∀ k, m b = some k → k.gen < k'.gen ∨ (ziD k k' ∧ (r', o') = ι b ∧ zjA w r' ≤ zjA w' r'))
 (hf : zha k' = false)
 (hok : Ext S w ι m S w' (ι.upd b (r', o')) (m.upd b k') → zqA S w' (ι.upd b (r', o')) (m.upd b k') r' o' k') :
 Sim S w' (ι.upd b (r', o')) (m.upd b k') ∧ Pg S w ι m S w' (ι.upd b (r', o')) (m.upd b k') := by
 have hSr : ∀ r, S r → r ≠ r' := by
  rintro r h rfl
  rcases hr with h1 | ⟨k, h1, h2, h3⟩
  · have := hs.lt _ h; omega
  · exact hs.apart b k h1 h2 (h3 ▸ h)
 have hother : ∀ c k, m c = some k → c ≠ b → (ι c).1 ≠ r' := by
  intro c k hc hne e
  rcases hr with h1 | ⟨k2, h1, h2, h3⟩
  · have := (hs.own c k hc).lt; omega
  · exact hne (hs.inj c b (by simp [hc]) (by simp [h1]) (e.trans h3))
 have hext : Ext S w ι m S w' (ι.upd b (r', o')) (m.upd b k') := by
  refine ⟨fun _ h => h, fun r h => hkeep r (hs.lt r h) (hSr r h), fun c k hc => ?_⟩
  by_cases e : c = b
  · subst e
    refine ⟨k', Mem.upd_same _ _ _, ?_⟩
    rcases hgen k hc with h1 | ⟨h1, h2, h3⟩
    · exact .inl h1
    · refine .inr ⟨h1, by rw [Loc.upd_same]; exact h2, ?_⟩
      rw [← h2]; exact h3
  · refine ⟨k, by rw [Mem.upd_ne _ _ e]; exact hc, .inr ⟨ziD.refl k, Loc.upd_ne _ _ e, ?_⟩⟩
    exact Nat.le_of_eq (zuk (hkeep _ (hs.own c k hc).lt (hother c k hc e))).symm
 refine ⟨⟨fun c k hc => ?_, fun c c' hc hc' e => ?_, fun c k hc hk => ?_, fun c k hc hk => ?_, fun r h => Nat.lt_of_lt_of_le (hs.lt r h) hsz⟩, ⟨hext, hos, htape, hout, hsz, fun r h hn => ?_, fun r h => .inl h, fun c k hc hk => ?_, fun c k hc => ?_⟩⟩
 · rcases Mem.upd_some hc with ⟨rfl, rfl⟩ | ⟨e, hc⟩
   · rw [Loc.upd_same]; exact hok hext
   · rw [Loc.upd_ne _ _ e]
     exact (hs.own c k hc).mono hext (hkeep _ (hs.own c k hc).lt (hother c k hc e))
 · by_cases e1 : c = b
   · by_cases e2 : c' = b
     · exact e1.trans e2.symm
     · exfalso
       subst e1
       rw [Loc.upd_same, Loc.upd_ne _ _ e2] at e
       rw [Mem.upd_ne _ _ e2] at hc'
       obtain ⟨k, hk⟩ := Option.ne_none_iff_exists'.1 hc'
       exact hother c' k hk e2 e.symm
   · by_cases e2 : c' = b
     · exfalso
       subst e2
       rw [Loc.upd_same, Loc.upd_ne _ _ e1] at e
       rw [Mem.upd_ne _ _ e1] at hc
       obtain ⟨k, hk⟩ := Option.ne_none_iff_exists'.1 hc
       exact hother c k hk e1 e
     · rw [Loc.upd_ne _ _ e1, Loc.upd_ne _ _ e2] at e
       rw [Mem.upd_ne _ _ e1] at hc
       rw [Mem.upd_ne _ _ e2] at hc'
       exact hs.inj c c' hc hc' e
 · rcases Mem.upd_some hc with ⟨rfl, rfl⟩ | ⟨e, hc⟩
   · rw [Loc.upd_same]; exact fun h => hSr _ h rfl
   · rw [Loc.upd_ne _ _ e]; exact hs.apart c k hc hk
 · rcases Mem.upd_some hc with ⟨rfl, rfl⟩ | ⟨e, hc⟩
   · rw [hf] at hk; cases hk
   · rw [Loc.upd_ne _ _ e]; exact hs.fz c k hc hk
 · refine hkeep r h ?_
   rintro rfl
   rcases hr with h1 | ⟨k, h1, h2, h3⟩
   · omega
   · exact hn b k h1 h2 h3.symm
 · rcases Mem.upd_some hc with ⟨rfl, rfl⟩ | ⟨e, hc⟩
   · rw [Loc.upd_same]
     rcases hr with h1 | ⟨k0, h1, h2, h3⟩
     · exact .inl h1
     · exact .inr ⟨c, k0, h1, h2, h3.symm⟩
   · rw [Loc.upd_ne _ _ e]; exact .inr ⟨c, k, hc, hk, rfl⟩
 · rcases Mem.upd_some hc with ⟨rfl, rfl⟩ | ⟨e, hc⟩
   · rw [Loc.upd_same]
     rcases hr with h1 | ⟨k0, h1, h2, h3⟩
     · exact .inl h1
     · exact .inr ⟨c, k0, h1, h3.symm⟩
   · rw [Loc.upd_ne _ _ e]; exact .inr ⟨c, k, hc, rfl⟩
theorem zEt {S : Nat → Prop} {w : World} {ι : Loc} {m : Mem} (hs : Sim S w ι m) (b : Nm) (g : Nat) (fz cl : Bool) (sz : Nat) (rs : List Row) (hm : m b = some (.rows g fz cl sz rs)) :
 Sim (fun r => S r ∨ r = (ι b).1) w ι (m.upd b (.rows g true cl sz rs)) ∧ Pg S w ι m (fun r => S r ∨ r = (ι b).1) w ι (m.upd b (.rows g true cl sz rs)) := by
 have hext : Ext S w ι m (fun r => S r ∨ r = (ι b).1) w ι (m.upd b (.rows g true cl sz rs)) := by
  refine ⟨fun _ h => .inl h, fun _ _ => rfl, fun c k hc => ?_⟩
  by_cases e : c = b
  · subst e
    rw [hm] at hc
    obtain rfl := Option.some.inj hc
    exact ⟨_, Mem.upd_same _ _ _, .inr ⟨⟨rfl, rfl⟩, rfl, Nat.le_refl _⟩⟩
  · exact ⟨k, by rw [Mem.upd_ne _ _ e]; exact hc, .inr ⟨ziD.refl k, rfl, Nat.le_refl _⟩⟩
 have hnn : ∀ c, (m.upd b (.rows g true cl sz rs)) c ≠ none → m c ≠ none := by
  intro c hc
  by_cases e : c = b
  · subst e; simp [hm]
  · rwa [Mem.upd_ne _ _ e] at hc
 refine ⟨⟨fun c k hc => ?_, fun c c' hc hc' e => hs.inj c c' (hnn c hc) (hnn c' hc') e, fun c k hc hk => ?_, fun c k hc hk => ?_, ?_⟩,
  ⟨hext, rfl, rfl, rfl, Nat.le_refl _, fun _ _ _ => rfl, fun r h => ?_, fun c k hc hk => ?_, fun c k hc => ?_⟩⟩
 · rcases Mem.upd_some hc with ⟨rfl, rfl⟩ | ⟨e, hc⟩
   · obtain ⟨cur, t, lo, hi, h1, _, h3, h4, h5, h6⟩ := (hs.own _ _ hm).mono hext rfl
     exact ⟨cur, t, lo, hi, h1, (fun h => by cases h), h3, h4, h5, h6⟩
   · exact (hs.own c k hc).mono hext rfl
 · rcases Mem.upd_some hc with ⟨rfl, rfl⟩ | ⟨e, hc⟩
   · cases hk
   · rintro (h | h)
     · exact hs.apart c k hc hk h
     · exact e (hs.inj c b (by simp [hc]) (by simp [hm]) h)
 · rcases Mem.upd_some hc with ⟨rfl, rfl⟩ | ⟨e, hc⟩
   · exact .inr rfl
   · exact .inl (hs.fz c k hc hk)
 · rintro r (h | rfl)
   · exact hs.lt r h
   · exact (hs.own _ _ hm).lt
 · rcases h with h | rfl
   · exact .inl h
   · cases fz with
     | true => exact .inl (hs.fz b _ hm rfl)
     | false => exact .inr (.inr ⟨b, _, hm, rfl, rfl⟩)
 · rcases Mem.upd_some hc with ⟨rfl, rfl⟩ | ⟨e, hc⟩
   · cases hk
   · exact .inr ⟨c, k, hc, hk, rfl⟩
 · rcases Mem.upd_some hc with ⟨rfl, rfl⟩ | ⟨e, hc⟩
   · exact .inr ⟨c, _, hm, rfl⟩
   · exact .inr ⟨c, k, hc, rfl⟩
end Go.Ev
