/- Part of a proof. -/
import Derived.Laws.StructEq
import Derived.Attr
import Derived.Below
import Derived.Test.YtaadpbhondmahaaGreatDoorT1
set_option linter.all false
namespace Go.Ev
def zMq : Value -> Option D
 | .bool b => some (.bool b)
 | .int k n => some (.int k n)
 | .string s => some (.str s.data.toList)
 | .pointer none => some .nilp
 | .slice none 0 0 => some (.sl .nil [])
 | .map none => some .nilm
 | .nilFunc => some .nilf
 | .nilIface => some .nili
 | _ => none
def zql : List Value -> Option (List D)
 | [] => some []
 | v :: r => bnd (zMq v) fun d => bnd (zql r) fun l => some (d :: l)
def ofV : Value -> Option D
 | .agg cs => bnd (zql cs.toList) fun l => some (.agg l)
 | .bool b => some (.bool b)
 | .int k n => some (.int k n)
 | .string s => some (.str s.data.toList)
 | .pointer none => some .nilp
 | .slice none 0 0 => some (.sl .nil [])
 | .map none => some .nilm
 | .nilFunc => some .nilf
 | .nilIface => some .nili
 | _ => none
def zTm : Option D -> D
 | some d => d
 | none => .unk
inductive TK where
 | int (k : IntKind) | bool | str | ptr | slice (e : TypeId) | array (n : Nat) (e : TypeId) | map (k e : TypeId)
 | struct (fs : List (TypeId × Nat)) | func | iface | tuple | other
 deriving Inhabited
structure TI where
 kind : TK
 size : Nat
 bytes : Nat
 zero : List D
 deriving Inhabited
def zka : TypeDesc -> TK
 | .int k => .int k
 | .bool => .bool
 | .string => .str
 | .pointer _ => .ptr
 | .slice e => .slice e
 | .array n e => .array n e
 | .map k e => .map k e
 | .struct fs => .struct (fs.toList.map fun f => (f.type, f.offset))
 | .func _ _ _ => .func
 | .interface _ => .iface
 | .tuple _ => .tuple
 | _ => .other
def TK.agg : TK -> Bool
 | .struct _ | .array _ _ => true
 | _ => false
def zQh (P : Program) (t : TypeId) : Option TI :=
 match P.info? t, P.underlying t with
 | some i, some u =>
   match i.zero with
   | some z => (zql z.cells.toList).map fun zc => ⟨zka u, i.size, i.bytes, zc⟩
   | none => none
 | _, _ => none
def zkZ (P : Program) (t : TypeId) : Option TI := if t < P.types.size then zQh P t else none
def kOf (P : Program) (t : TypeId) : Option TK := (zkZ P t).map TI.kind
def zKw (P : Program) (t : TypeId) : Bool :=
 match P.underlying t with
 | some (.struct fs) => !P.stoodInHeld t && !P.eqGuardType P.depth t && fs.toList.zipIdx.all (fun p => p.1.name != "_" && p.1.offset == p.2)
 | _ => false
def opd (e : Env) : Operand -> D
 | .tmp t => e t
 | .const v => zTm (ofV v)
 | .global _ => .unk
 | .func f => .fn (.func f) [] []
def cellsOf : D -> List D
 | .agg cs => cs
 | .bool b => [.bool b]
 | .int k n => [.int k n]
 | .str s => [.str s]
 | .nilp => [.nilp]
 | .ptr b g r o => [.ptr b g r o]
 | .eptr r o => [.eptr r o]
 | .sl f r => [.sl f r]
 | .own b g o l => [.own b g o l]
 | .nilm => [.nilm]
 | .map b g => [.map b g]
 | .iter b g => [.iter b g]
 | .fn f a b => [.fn f a b]
 | .nilf => [.nilf]
 | .iface t v => [.iface t v]
 | .nili => [.nili]
 | .tup l => [.tup l]
 | .unk => [.unk]
def only : List D -> Option D
 | [d] => some d
 | _ => none
def zKi (k : TK) (cs : List D) : Option D := if k.agg then some (.agg cs) else only cs
def zcl : List D -> Bool
 | [] => true
 | d :: r => cell d && zcl r
def zbc : List D -> Bool
 | [] => true
 | d :: r => still d && zbc r
def zhQ : List Row -> Bool
 | [] => true
 | d :: r => zbc d && zhQ r
def cut {α : Type} (l : List α) (off len : Nat) : List α := if off = 0 /\ len = l.length then l else (l.drop off).take len
def put {α : Type} (l : List α) (off : Nat) (new : List α) : List α := l.take off ++ (new ++ l.drop (off + new.length))
def part (ti : TI) (cs : List D) (off : Nat) : Option D :=
 bnd (ok (decide ((cut cs off ti.size).length = ti.size))) fun _ => zKi ti.kind (cut cs off ti.size)
def zFZ : D -> D -> TK -> Option Bool
 | .bool a, .bool b, .bool => some (a == b)
 | .int j a, .int k b, .int _ => if j = k then some (a == b) else none
 | .str a, .str b, .str => some (a == b)
 | _, _, _ => none
def zjT (P : Program) : List (TypeId × Nat) -> List D -> List D -> Option Bool
 | [], [], [] => some true
 | f :: fs, x :: xs, y :: ys => bnd (bnd (kOf P f.1) (zFZ x y)) fun a => bnd (zjT P fs xs ys) fun b => some (a && b)
 | _, _, _ => none
def zWG (P : Program) (xs ys : List D) : TK -> Option Bool
 | .struct fs => zjT P fs xs ys
 | _ => none
def zQZ (c : Bool) : D -> D -> TK -> Option Bool
 | .bool a, .bool b, .bool => some (a == b)
 | .nilp, .nilp, .ptr => some true
 | .ptr _ _ _ _, .nilp, .ptr => some false
 | .nilp, .ptr _ _ _ _, .ptr => some false
 | .sl .nil _, .sl .nil _, .slice _ => some true
 | .sl .nil _, .sl .any _, .slice _ => some false
 | .sl .nil _, .sl .full _, .slice _ => some false
 | .sl .any _, .sl .nil _, .slice _ => some false
 | .sl .full _, .sl .nil _, .slice _ => some false
 | .own _ _ _ _, .sl .nil _, .slice _ => some false
 | .nili, .nili, .iface => if c then some true else none
 | .iface _ _, .nili, .iface => some false
 | .nili, .iface _ _, .iface => some false
 | _, _, _ => none
def deq (P : Program) (t : TypeId) (c : Bool) : D -> D -> Option Bool
 | .agg xs, .agg ys => bnd (ok (zKw P t)) fun _ => bnd (kOf P t) (zWG P xs ys)
 | x, y => bnd (kOf P t) (zQZ c x y)
def zdf : List UInt8 -> List UInt8 -> Bool
 | _, [] => false
 | [], _ :: _ => true
 | a :: x, b :: y => a < b || (a == b && zdf x y)
def zEK (k : IntKind) (x y : Int) : BinOp -> Option D
 | .add => some (.int k (k.wrap (x + y)))
 | .sub => some (.int k (k.wrap (x - y)))
 | .mul => some (.int k (k.wrap (x * y)))
 | .quo => if y = 0 then none else some (.int k (k.wrap (x.tdiv y)))
 | .rem => if y = 0 then none else some (.int k (x.tmod y))
 | .and => some (.int k (k.wrap (BitVec.ofInt k.bits x &&& BitVec.ofInt k.bits y).toNat))
 | .or => some (.int k (k.wrap (BitVec.ofInt k.bits x ||| BitVec.ofInt k.bits y).toNat))
 | .xor => some (.int k (k.wrap (BitVec.ofInt k.bits x ^^^ BitVec.ofInt k.bits y).toNat))
 | .andNot => some (.int k (k.wrap (BitVec.ofInt k.bits x &&& ~~~(BitVec.ofInt k.bits y)).toNat))
 | .eql => some (.bool (x == y))
 | .neq => some (.bool (x != y))
 | .lss => some (.bool (decide (x < y)))
 | .leq => some (.bool (decide (x <= y)))
 | .gtr => some (.bool (decide (x > y)))
 | .geq => some (.bool (decide (x ≥ y)))
 | .shl => none
 | .shr => none
def room : Nat := 140737488355328
def zQU (x y : List UInt8) : BinOp -> Option D
 | .add => bnd (ok (decide (x.length + y.length <= room))) fun _ => some (.str (x ++ y))
 | .eql => some (.bool (x == y))
 | .neq => some (.bool !(x == y))
 | .lss => some (.bool (zdf x y))
 | .leq => some (.bool (zdf x y || x == y))
 | .gtr => some (.bool !(zdf x y || x == y))
 | .geq => some (.bool !(zdf x y))
 | _ => none
def zqv (k k' : IntKind) (x y : Int) : BinOp -> Option D
 | .shl => if y < 0 then none else some (.int k (k.wrap (x * 2 ^ min y.toNat k.bits)))
 | .shr => if y < 0 then none else some (.int k (x.fdiv (2 ^ min y.toNat k.bits)))
 | op => if k = k' then zEK k x y op else none
def zPV (P : Program) (t : TypeId) (c : Bool) (x y : D) : BinOp -> Option D
 | .eql => bnd (deq P t c x y) fun b => some (.bool b)
 | .neq => bnd (deq P t c x y) fun b => some (.bool !b)
 | _ => none
def zP0 (P : Program) (op : BinOp) (t : TypeId) (c : Bool) : D -> D -> Option D
 | .int k a, .int k' b => zqv k k' a b op
 | .str a, .str b => zQU a b op
 | x, y => zPV P t c x y op
def dun : UnOp -> D -> Option D
 | .neg, .int k n => some (.int k (k.wrap (0 - n)))
 | .xor, .int k n => some (.int k (k.wrap (BitVec.ofInt k.bits (if k.signed then -1 else k.max) ^^^ BitVec.ofInt k.bits n).toNat))
 | .not, .bool b => some (.bool !b)
 | _, _ => none
def zHZ (P : Program) (f : Nat) : D -> TK -> Option D
 | .agg cs, .struct fs => bnd fs[f]? fun p => bnd (zkZ P p.1) fun ti => part ti cs p.2
 | _, _ => none
def zJe (P : Program) (t : TypeId) (x : D) (f : Nat) : Option D := bnd (kOf P t) (zHZ P f x)
def zDW (P : Program) (n : Int) : D -> TK -> Option D
 | .str s, .str => bnd (ok (decide (0 <= n))) fun _ => bnd s[n.toNat]? fun b => some (.int .u8 b.toNat)
 | .agg cs, .array len e => bnd (zkZ P e) fun ti => bnd (ok (decide (0 <= n) && decide (n < len))) fun _ => part ti cs (n.toNat * ti.size)
 | _, _ => none
def zJd (P : Program) (t : TypeId) (x : D) : D -> Option D
 | .int _ n => bnd (kOf P t) (zDW P n x)
 | _ => none
def bound (dflt top : Nat) : Option D -> Option Nat
 | none => some dflt
 | some (.int _ n) => bnd (ok (decide (0 <= n) && decide (n <= top))) fun _ => some n.toNat
 | some _ => none
def zkk (place : Nat -> Option (Nat × Nat)) (cells : List D) : List (Nat × D) -> Option (List D)
 | [] => some cells
 | p :: rest => bnd (place p.1) fun q =>
     bnd (ok (decide ((cellsOf p.2).length = q.2) && decide (q.1 + q.2 <= cells.length) && zcl (cellsOf p.2))) fun _ => zkk place (put cells q.1 (cellsOf p.2)) rest
def zlh (P : Program) (fs : List (TypeId × Nat)) (i : Nat) : Option (Nat × Nat) := bnd fs[i]? fun p => bnd (zkZ P p.1) fun ti => some (p.2, ti.size)
def zH4 (P : Program) (parts : List (Nat × D)) (z : List D) : TK -> Option D
 | .struct fs => bnd (zkk (zlh P fs) z parts) fun l => some (.agg l)
 | .array _ e => bnd (zkZ P e) fun ti => bnd (zkk (fun i => some (i * ti.size, ti.size)) z parts) fun l => some (.agg l)
 | _ => none
def zJi (P : Program) (t : TypeId) (parts : List (Nat × D)) : Option D := bnd (zkZ P t) fun ti => zH4 P parts ti.zero ti.kind
def zJt : Row -> Option UInt8
 | [.int .u8 n] => some (UInt8.ofNat n.toNat)
 | _ => none
def znw : List Row -> Option (List UInt8)
 | [] => some []
 | r :: l => bnd (zJt r) fun b => bnd (znw l) fun bs => some (b :: bs)
def zjU (b : UInt8) : Row := [.int .u8 b.toNat]
def zZu : D -> D -> Option D
 | .int k a, .int k' b => if k = k' then some (.int k (if b < a then b else a)) else none
 | _, _ => none
def zWD : D -> D -> Option D
 | .int k a, .int k' b => if k = k' then some (.int k (if b > a then b else a)) else none
 | _, _ => none
def zHS (f : D -> D -> Option D) : D -> List D -> Option D
 | x, [] => some x
 | x, y :: r => bnd (f x y) fun z => zHS f z r
structure St where
 env : Env
 mem : Mem
inductive Ex where
 | normal | ret | exit (id : Nat)
structure Res where
 val : D
 args : List Blk
 esc : List Blk
structure Cfg where
 P : Program
 prim : FuncId -> Option (List D -> Option D)
 byRef : FuncId -> Bool
 fine : FuncId -> Bool
 alt : FuncId -> Option (List D -> List Blk -> Option Res) := fun _ => none
 byRes : FuncId -> Bool := fun _ => false
def zck : Option Blk -> Nat
 | some b => b.gen + 1
 | none => 0
structure RB where
 fz : Bool
 cl : Bool
 sz : Nat
 rs : List Row
def zGv (g : Nat) : Option Blk -> M RB
 | some (.rows g' fz cl sz rs) => do
   M.guard (decide (g' = g))
   pure ⟨fz, cl, sz, rs⟩
 | _ => .fail
def zjH (b : Nm) (g : Nat) : M RB := do
 let o <- M.peek b
 zGv g o
def znh (b : Nm) (sz : Nat) (rs : List Row) (cl : Bool) : M (Nat × Ups) := do
 let o <- M.peek b
 pure (zck o, [(b, .rows (zck o) false cl sz rs)])
def zfY {α : Type} (f : α -> M (α × List Nm)) : List α -> M (List α × List Nm)
 | [] => pure ([], [])
 | d :: r => do
   let p <- f d
   let q <- zfY f r
   pure (p.1 :: q.1, p.2 ++ q.2)
def zjj : Nat -> D -> M (D × List Nm)
 | n + 1, .own b g off len => do
   let k <- zjH b g
   M.guard (decide (off + len <= k.rs.length))
   if k.cl then pure (.sl .any (cut k.rs off len), [b])
   else do
    let p <- zfY (zfY (zjj n)) (cut k.rs off len)
    M.guard (zhQ p.1)
    pure (.sl .any p.1, b :: p.2)
 | n + 1, .agg cs => do
   let p <- zfY (zjj n) cs
   pure (.agg p.1, p.2)
 | n + 1, .tup cs => do
   let p <- zfY (zjj n) cs
   pure (.tup p.1, p.2)
 | 0, .own b g off len => pure (.own b g off len, [])
 | 0, .agg cs => pure (.agg cs, [])
 | 0, .tup cs => pure (.tup cs, [])
 | _, .bool b => pure (.bool b, [])
 | _, .int k n => pure (.int k n, [])
 | _, .str s => pure (.str s, [])
 | _, .nilp => pure (.nilp, [])
 | _, .ptr b g r o => pure (.ptr b g r o, [])
 | _, .eptr r o => pure (.eptr r o, [])
 | _, .sl f r => pure (.sl f r, [])
 | _, .nilm => pure (.nilm, [])
 | _, .map b g => pure (.map b g, [])
 | _, .iter b g => pure (.iter b g, [])
 | _, .fn f a b => pure (.fn f a b, [])
 | _, .nilf => pure (.nilf, [])
 | _, .iface t v => pure (.iface t v, [])
 | _, .nili => pure (.nili, [])
 | _, .unk => pure (.unk, [])
def zCA (b : Nm) : Option Blk -> M (Nm × Blk)
 | some (.rows g _ cl sz rs) => pure (b, .rows g true cl sz rs)
 | _ => .fail
def zhT : List Nm -> M Ups
 | [] => pure []
 | b :: l => do
   let o <- M.peek b
   let u <- zCA b o
   let us <- zhT l
   pure (u :: us)
def zrp (size : Nat) (rs : List Row) : Bool := rs.all fun r => r.length == size
def zJj (P : Program) (T : Nat) (t : TypeId) : M (D × Ups) := do
 let ti <- M.lift (zkZ P t)
 M.guard (decide (0 < ti.size) && decide (ti.zero.length = ti.size) && zcl ti.zero)
 let p <- znh (.loc T 0) ti.size [ti.zero] (zbc ti.zero)
 pure (.ptr (.loc T 0) p.1 0 0, p.2)
def zWK (P : Program) (T : Nat) (t : TypeId) (x : D) : M (D × Ups) := do
 let ti <- M.lift (zkZ P t)
 M.guard (decide (0 < ti.size) && decide ((cellsOf x).length = ti.size) && zcl (cellsOf x))
 let p <- znh (.loc T 0) ti.size [cellsOf x] (zbc (cellsOf x))
 pure (.ptr (.loc T 0) p.1 0 0, p.2)
def zJc (ti : TI) : D -> M D
 | .ptr b g r o => do
   let k <- zjH b g
   let row <- M.lift k.rs[r]?
   M.lift (part ti row o)
 | .eptr row o => M.lift (part ti row o)
 | _ => .fail
def zM6 (P : Program) (t : TypeId) (d : D) : M D := do
 let ti <- M.lift (zkZ P t)
 zJc ti d
def zHV (ti : TI) (x : D) : D -> M Ups
 | .ptr b g r o => do
   let k <- zjH b g
   let row <- M.lift k.rs[r]?
   M.guard (!k.fz && decide ((cellsOf x).length = ti.size) && zcl (cellsOf x) && decide (o + ti.size <= row.length))
   pure [(b, .rows g k.fz (k.cl && zbc (cellsOf x)) k.sz (k.rs.set r (put row o (cellsOf x))))]
 | _ => .fail
def zI8 (P : Program) (t : TypeId) (d x : D) : M Ups := do
 let ti <- M.lift (zkZ P t)
 zHV ti x d
def zCU (n : Nat) : D -> Option D
 | .ptr b g r o => some (.ptr b g r (o + n))
 | .eptr row o => some (.eptr row (o + n))
 | _ => none
def zqx (P : Program) (d : D) (f : Nat) : TK -> Option D
 | .struct fs => bnd fs[f]? fun p => bnd (zkZ P p.1) fun ti => bnd (ok (decide (0 < ti.size))) fun _ => zCU p.2 d
 | _ => none
def zti (P : Program) (t : TypeId) (d : D) (f : Nat) : Option D := bnd (kOf P t) (zqx P d f)
def zsr (ti : TI) (n : Int) : D -> M D
 | .sl _ rs => do
   M.guard (decide (0 <= n))
   let row <- M.lift rs[n.toNat]?
   M.guard (decide (row.length = ti.size))
   pure (.eptr row 0)
 | .own b g off len => do
   M.guard (decide (0 <= n) && decide (n < len))
   let k <- zjH b g
   M.guard (decide (k.sz = ti.size))
   pure (.ptr b g (off + n.toNat) 0)
 | _ => .fail
def zqw (P : Program) (n : Int) (d : D) : TK -> M D
 | .slice e => do
   let ti <- M.lift (zkZ P e)
   zsr ti n d
 | .array len e => do
   let ti <- M.lift (zkZ P e)
   M.guard (decide (0 <= n) && decide (n < len) && decide (0 < ti.size))
   M.lift (zCU (n.toNat * ti.size) d)
 | _ => .fail
def zth (P : Program) (t : TypeId) (d : D) : D -> M D
 | .int _ n => do
   let k <- M.lift (kOf P t)
   zqw P n d k
 | _ => .fail
def znn (f : Fl) (mx : Bool) : Fl :=
 match f, mx with
 | .nil, _ => .nil
 | .any, _ => .any
 | .full, true => .full
 | .full, false => .any
def zfr (P : Program) (lo hi mx : Option D) : D -> TK -> M D
 | .str s, .str => do
   M.guard mx.isNone
   let h <- M.lift (bound s.length s.length hi)
   let l <- M.lift (bound 0 h lo)
   pure (.str (cut s l (h - l)))
 | .sl f rs, .slice e => do
   let ti <- M.lift (zkZ P e)
   let m <- M.lift (bound rs.length rs.length mx)
   let h <- M.lift (bound (if mx.isSome then m + 1 else rs.length) m hi)
   M.guard (decide (h <= m))
   let l <- M.lift (bound 0 h lo)
   M.guard (decide (l = 0) || zrp ti.size rs)
   pure (.sl (if mx.isSome && f != .nil then znn .full (h == m) else znn f (h == m)) (cut rs l (h - l)))
 | .own b g off len, .slice e => do
   M.guard mx.isNone
   let ti <- M.lift (zkZ P e)
   let h <- M.lift (bound len len hi)
   let l <- M.lift (bound 0 h lo)
   let k <- zjH b g
   M.guard (decide (k.sz = ti.size))
   pure (.own b g (off + l) (h - l))
 | _, _ => .fail
def zI9 (P : Program) (t : TypeId) (x : D) (lo hi mx : Option D) : M D := do
 let k <- M.lift (kOf P t)
 zfr P lo hi mx x k
def zoM : D -> M (List Row × List Nm × Bool)
 | .sl _ rs => pure (rs, [], true)
 | .str s => pure (s.map zjU, [], true)
 | .own b g off len => do
   let k <- zjH b g
   M.guard (decide (off + len <= k.rs.length))
   if k.cl then pure (cut k.rs off len, [], true)
   else do
    let p <- zfY (zfY (zjj 8)) (cut k.rs off len)
    pure (p.1, p.2, zhQ p.1)
 | _ => .fail
def zhR : TK -> Option TypeId
 | .slice e => some e
 | _ => none
def zr3 : TK -> Bool
 | .slice _ | .str => true
 | _ => false
def zv3 (T : Nat) (ti : TI) (new : List Row) (l : List Nm) (st : Bool) : D -> M (D × Ups)
 | .own b g off len => do
   let fz <- zhT l
   let k <- zjH b g
   M.guard (!k.fz && decide (off + len <= k.rs.length) && decide (k.sz = ti.size) && decide ((len + new.length) * ti.bytes <= room) && !(l.contains b))
   pure (.own b (g + 1) 0 (len + new.length), fz ++ [(b, .rows (g + 1) false (k.cl && st) k.sz (cut k.rs off len ++ new))])
 | .sl f rs => do
   M.guard (f != .any && zrp ti.size rs)
   if new.isEmpty then pure (.sl f rs, [])
   else do
    let fz <- zhT l
    M.guard (decide ((rs.length + new.length) * ti.bytes <= room) && !(l.contains (.loc T 0)))
    let p <- znh (.loc T 0) ti.size (rs ++ new) st
    pure (.own (.loc T 0) p.1 0 (rs.length + new.length), fz ++ p.2)
 | _ => .fail
def zDI : TK -> Bool
 | .int _ => true
 | _ => false
def zD2 (T : Nat) (ti : TI) : D -> D -> M (D × Ups)
 | .sl f rs, .int _ n => do
   M.guard (f != .any && rs.isEmpty && decide (0 < n) && decide (n * ti.bytes <= (room : Int)) && decide (0 < ti.size) && decide (0 < ti.bytes) && decide (ti.zero.length = ti.size) && zcl ti.zero)
   let p <- znh (.loc T 0) ti.size (List.replicate n.toNat ti.zero) (zbc ti.zero)
   pure (.own (.loc T 0) p.1 0 n.toNat, p.2)
 | _, _ => .fail
def zD3 (P : Program) (T : Nat) (s x : D) : List TypeId -> M (D × Ups)
 | [t, tx] => do
   let k <- M.lift (kOf P t)
   let e <- M.lift (zhR k)
   let ti <- M.lift (zkZ P e)
   let kx <- M.lift (kOf P tx)
   if zDI kx then zD2 T ti s x else do
   M.guard (zr3 kx)
   let q <- zoM x
   M.guard (zrp ti.size q.1 && decide (0 < ti.size) && decide (0 < ti.bytes) && decide (ti.zero.length = ti.size) && zcl ti.zero)
   zv3 T ti q.1 q.2.1 q.2.2 s
 | _ => .fail
def zPU (T : Nat) (ti : TI) : D -> D -> M (D × Ups)
 | .int _ l, .int _ c => do
   M.guard (decide (0 <= l) && decide (l <= c) && decide (ti.bytes * c <= 281474976710656) && decide (c <= 9223372036854775807) && decide (0 < ti.size) && decide (ti.zero.length = ti.size) && zcl ti.zero)
   let p <- znh (.loc T 0) ti.size (List.replicate l.toNat ti.zero) (zbc ti.zero)
   pure (.own (.loc T 0) p.1 0 l.toNat, p.2)
 | _, _ => .fail
def ztg (P : Program) (T : Nat) (t : TypeId) (l c : D) : M (D × Ups) := do
 let k <- M.lift (kOf P t)
 let e <- M.lift (zhR k)
 let ti <- M.lift (zkZ P e)
 zPU T ti l c
def zte (size : Nat) (rows : List Row) : List (Nat × D) -> Option (List Row)
 | [] => some rows
 | p :: rest => bnd (ok (decide ((cellsOf p.2).length = size) && decide (p.1 < rows.length) && zcl (cellsOf p.2))) fun _ => zte size (rows.set p.1 (cellsOf p.2)) rest
def zHq (p : Nat × D) : M ((Nat × D) × List Nm) := do
 let q <- zjj 8 p.2
 pure ((p.1, q.1), q.2)
def zqA (P : Program) (T : Nat) (t : TypeId) (len : Nat) (parts : List (Nat × D)) : M (D × Ups) := do
 let k <- M.lift (kOf P t)
 let e <- M.lift (zhR k)
 let ti <- M.lift (zkZ P e)
 M.guard (decide (0 < ti.size) && decide (len * ti.size <= 16777216) && decide (ti.zero.length = ti.size) && zcl ti.zero)
 let ps <- zfY zHq parts
 let rs <- M.lift (zte ti.size (List.replicate len ti.zero) ps.1)
 let fz <- zhT ps.2
 M.guard (!(ps.2.contains (.loc T 0)))
 let p <- znh (.loc T 0) ti.size rs (zhQ rs)
 pure (.own (.loc T 0) p.1 0 len, fz ++ p.2)
def zBK (g : Nat) : Option Blk -> M (Bool × List Ent × Nat)
 | some (.map g' cl es clock) => do
   M.guard (decide (g' = g))
   pure (cl, es, clock)
 | _ => .fail
def zoQ (b : Nm) (g : Nat) : M (Bool × List Ent × Nat) := do
 let o <- M.peek b
 zBK g o
def zM7 : D -> TK -> M D
 | .str s, .str => pure (.int .i64 s.length)
 | .sl _ rs, .slice _ => pure (.int .i64 rs.length)
 | .own _ _ _ len, .slice _ => pure (.int .i64 len)
 | .nilm, .map _ _ => pure (.int .i64 0)
 | .map b g, .map _ _ => do
   let k <- zoQ b g
   pure (.int .i64 k.2.1.length)
 | _, .array n _ => pure (.int .i64 n)
 | _, _ => .fail
def zWE (P : Program) (x : D) : List TypeId -> M D
 | [t] => do
   let k <- M.lift (kOf P t)
   zM7 x k
 | _ => .fail
def zT2 : D -> TK -> M D
 | .sl f rs, .slice _ => do
   M.guard (f != .any)
   pure (.int .i64 rs.length)
 | _, _ => .fail
def zZz (P : Program) (x : D) : List TypeId -> M D
 | [t] => do
   let k <- M.lift (kOf P t)
   zT2 x k
 | _ => .fail
def zQK : TK -> Bool
 | .int .u8 => true
 | _ => false
def zAG : D -> M (List Row)
 | .sl _ rs => pure rs
 | .own b g off len => do
   let k <- zjH b g
   M.guard (decide (off + len <= k.rs.length) && decide (k.sz = 1))
   pure (cut k.rs off len)
 | _ => .fail
def zlN (P : Program) (T : Nat) : D -> TK -> TK -> M (D × Ups)
 | .int _ n, _, .int k => pure (.int k (k.wrap n), [])
 | .str s, _, .str => pure (.str s, [])
 | .str s, .str, .slice e => do
   let ke <- M.lift (kOf P e)
   M.guard (zQK ke)
   let p <- znh (.loc T 0) 1 (s.map zjU) true
   pure (.own (.loc T 0) p.1 0 s.length, p.2)
 | x, .slice e, .str => do
   let ke <- M.lift (kOf P e)
   M.guard (zQK ke)
   let rs <- zAG x
   let bs <- M.lift (znw rs)
   pure (.str bs, [])
 | _, _, _ => .fail
def zzr (P : Program) (T : Nat) (src dst : TypeId) (x : D) : M (D × Ups) := do
 let ks <- M.lift (kOf P src)
 let kd <- M.lift (kOf P dst)
 zlN P T x ks kd
def zJb (ti : TI) (new : List Row) (st : Bool) : D -> M Ups
 | .own b g off len => do
   let k <- zjH b g
   M.guard (!k.fz && decide (off + len <= k.rs.length) && decide (k.sz = ti.size) && decide (new.length <= len) && decide (0 < new.length))
   pure [(b, .rows g k.fz (k.cl && st) k.sz (put k.rs off new))]
 | _ => .fail
def zNg (ti : TI) (new : List Row) (st : Bool) (d : D) : M (D × Ups) := do
 let us <- zJb ti new st d
 pure (.int .i64 new.length, us)
def zQ0 (P : Program) (d x : D) : List TypeId -> M (D × Ups)
 | [t, _] => do
   let k <- M.lift (kOf P t)
   let e <- M.lift (zhR k)
   let ti <- M.lift (zkZ P e)
   let q <- zoM x
   M.guard (zrp ti.size q.1 && decide (0 < ti.size) && q.2.1.isEmpty)
   zNg ti q.1 q.2.2 d
 | _ => .fail
def zNh (ti : TI) : D -> M Ups
 | .own b g off 0 => pure []
 | .own b g off (n + 1) => zJb ti (List.replicate (n + 1) ti.zero) (zbc ti.zero) (.own b g off (n + 1))
 | .sl _ [] => pure []
 | _ => .fail
def zNi (P : Program) (x : D) : List TypeId -> M Ups
 | [t] => do
   let k <- M.lift (kOf P t)
   let e <- M.lift (zhR k)
   let ti <- M.lift (zkZ P e)
   M.guard (decide (0 < ti.size) && decide (ti.zero.length = ti.size) && zcl ti.zero)
   zNh ti x
 | _ => .fail
def zm9 : D -> D -> Option Bool
 | .int j a, .int k b => if j = k then some (a == b) else none
 | .str a, .str b => some (a == b)
 | .bool a, .bool b => some (a == b)
 | _, _ => none
def zuI (k : D) : List Ent -> Nat -> Option (Option (Nat × D))
 | [], _ => some none
 | e :: es, i => bnd (zm9 k e.key) fun b => if b then some (some (i, e.val)) else zuI k es (i + 1)
def zug : D -> TK -> Bool
 | .int k' _, .int k => decide (k = k')
 | .str _, .str => true
 | .bool _, .bool => true
 | _, _ => false
def zqq : TK -> Option (TypeId × TypeId)
 | .map k e => some (k, e)
 | _ => none
def zMJ : Option D -> Bool
 | none => true
 | some (.int _ _) => true
 | some _ => false
def zHB (b : Nm) (mk : Nat -> Blk) (v : Nat -> D) : M (D × Ups) := do
 let o <- M.peek b
 pure (v (zck o), [(b, mk (zck o))])
def zzo (P : Program) (T : Nat) (t : TypeId) (r : Option D) : M (D × Ups) := do
 let k <- M.lift (kOf P t)
 let _ <- M.lift (zqq k)
 M.guard (zMJ r)
 zHB (.loc T 0) (fun g => .map g true [] 0) (fun g => .map (.loc T 0) g)
def zM0 : D -> M (List Ent)
 | .nilm => pure []
 | .map b g => do
   let k <- zoQ b g
   pure k.2.1
 | _ => .fail
def zPM (z : D) : Option (Nat × D) -> D
 | some p => p.2
 | none => z
def zDU (P : Program) (t : TypeId) (x k : D) (commaOk : Bool) : M D := do
 let kt <- M.lift (kOf P t)
 let q <- M.lift (zqq kt)
 let ke <- M.lift (kOf P q.1)
 let ti <- M.lift (zkZ P q.2)
 M.guard (zug k ke)
 let z <- M.lift (zKi ti.kind ti.zero)
 let es <- zM0 x
 let r <- M.lift (zuI k es 0)
 pure (if commaOk then .tup [zPM z r, .bool r.isSome] else zPM z r)
def zLO (k v : D) (es : List Ent) (clock : Nat) : Option (Nat × D) -> List Ent × Nat
 | some p => (es.modify p.1 fun e => ⟨k, v, e.born⟩, clock)
 | none => (es ++ [⟨k, v, clock⟩], clock + 1)
def zqu (k v : D) : D -> M Ups
 | .map b g => do
   let q <- zoQ b g
   let r <- M.lift (zuI k q.2.1 0)
   pure [(b, .map g (q.1 && zbc (cellsOf v)) (zLO k v q.2.1 q.2.2 r).1 (zLO k v q.2.1 q.2.2 r).2)]
 | _ => .fail
def zlj (P : Program) (t : TypeId) (x k v : D) : M Ups := do
 let kt <- M.lift (kOf P t)
 let q <- M.lift (zqq kt)
 let ke <- M.lift (kOf P q.1)
 M.guard (zug k ke)
 zqu k v x
def zsq (P : Program) (t : TypeId) (x k v : D) : M Ups := do
 let q <- zjj 8 v
 let fz <- zhT q.2
 let us <- zlj P t x k q.1
 pure (fz ++ us)
def zDR (T : Nat) : D -> TK -> M (D × Ups)
 | .str s, .str => zHB (.loc T 0) (fun g => .siter g s 0) (fun g => .iter (.loc T 0) g)
 | .nilm, .map _ _ => zHB (.loc T 0) (fun g => .miter g none 0 [] 0) (fun g => .iter (.loc T 0) g)
 | .map b g, .map _ _ => do
   let q <- zoQ b g
   zHB (.loc T 0) (fun g' => .miter g' (some (b, g)) q.2.2 [] q.2.2) (fun g => .iter (.loc T 0) g)
 | _, _ => .fail
def zJa (P : Program) (T : Nat) (t : TypeId) (x : D) : M (D × Ups) := do
 let k <- M.lift (kOf P t)
 zDR T x k
def zJ9 : D := .tup [.bool false]
def zMs (b : Nm) (g : Nat) : Option Blk -> Bool -> M (List (D × Ups))
 | some (.siter g' s pos), true => do
   M.guard (decide (g' = g))
   if pos < s.length then
    pure [(.tup [.bool true, .int .i64 pos, .int .i32 (Utf8.decode ⟨s.toArray⟩ pos).1], [(b, .siter g s (pos + (Utf8.decode ⟨s.toArray⟩ pos).2))])]
   else pure [(zJ9, [])]
 | some (.miter g' none _ _ _), false => do
   M.guard (decide (g' = g))
   pure [(zJ9, [])]
 | some (.miter g' (some m) since seen last), false => do
   M.guard (decide (g' = g))
   let q <- zoQ m.1 m.2
   M.guard (!(!seen.isEmpty && !q.2.1.isEmpty && q.2.1.all fun e => decide (e.born ≥ last)))
   let left := q.2.1.filter fun e => !seen.contains e.born
   let old := left.filter fun e => decide (e.born < since)
   let new := left.filter fun e => decide (e.born ≥ since)
   pure ((if old.isEmpty then [(zJ9, [])] else []) ++
    (old ++ new).map fun e => (.tup [.bool true, e.key, e.val], [(b, .miter g (some m) since (seen ++ [e.born]) q.2.2)]))
 | _, _ => .fail
def zPa (isString : Bool) : D -> M (List (D × Ups))
 | .iter b g => do
   let o <- M.peek b
   zMs b g o isString
 | _ => .fail
def zM1 (g : Nat) : Option Blk -> M D
 | some (.miter g' (some m) _ seen stepped) => do
   M.guard (decide (g' = g))
   let q <- zoQ m.1 m.2
   let stamp <- M.lift seen.getLast?
   M.guard (decide (q.2.2 = stepped))
   let e <- M.lift (q.2.1.find? fun e => e.born == stamp)
   pure (.tup [e.key, e.val])
 | _ => .fail
def zJf : D -> M D
 | .iter b g => do
   let o <- M.peek b
   zM1 g o
 | _ => .fail
def idx (b : Nm) : List Nm -> Option Nat
 | [] => none
 | c :: l => if b = c then some 0 else bnd (idx b l) fun i => some (i + 1)
def zTA : Option Blk -> M (List Nm)
 | some k => pure k.ids
 | none => .fail
def zDq : Nat -> List Nm -> List Nm -> M (List Nm)
 | _, [], acc => pure acc
 | 0, _ :: _, _ => .fail
 | n + 1, b :: todo, acc =>
   if acc.contains b then zDq n todo acc
   else do
    let o <- M.peek b
    let l <- zTA o
    zDq n (l ++ todo) (acc ++ [b])
def rin (L : List Nm) (b : Nm) : Option (Nm × Nat) := bnd (idx b L) fun i => some (.arg i, 0)
def zLX (L : List Nm) (T : Nat) (sh : List Nat) : Nm -> Option (Nm × Nat)
 | .arg i => bnd L[i]? fun b => some (b, 0)
 | .loc 0 j => bnd sh[j]? fun s => some (.loc T j, s)
 | .loc (_ + 1) _ => none
def zFr : List Nm -> M (List Blk)
 | [] => pure []
 | b :: l => do
   let o <- M.peek b
   let k <- M.lift o
   let ks <- zFr l
   pure (k :: ks)
def ztC (rids : List Nm) (b : Nm) : Blk -> Blk
 | .rows g fz cl sz rs => .rows g (fz || rids.contains b) cl sz rs
 | .map g cl es c => .map g cl es c
 | .siter g s p => .siter g s p
 | .miter g m i l h => .miter g m i l h
def zvY (rids : List Nm) : List Nm -> List Blk -> List Blk
 | b :: l, k :: ks => ztC rids b k :: zvY rids l ks
 | [], _ => []
 | _ :: _, [] => []
def zqh (ρ : Nm -> Option (Nm × Nat)) : List Blk -> Option (List Blk)
 | [] => some []
 | k :: l => bnd (zhS ρ 0 k) fun k' => bnd (zqh ρ l) fun l' => some (k' :: l')
def zzQ (T : Nat) : Nat -> List Blk -> M (List Nat)
 | _, [] => pure []
 | j, _ :: l => do
   let o <- M.peek (.loc T j)
   let r <- zzQ T (j + 1) l
   pure (zck o :: r)
def zoh (ρ : Nm -> Option (Nm × Nat)) (T : Nat) : Nat -> List Nat -> List Blk -> Option Ups
 | j, s :: sh, k :: l => bnd (zhS ρ s k) fun k' => bnd (zoh ρ T (j + 1) sh l) fun l' => some ((.loc T j, k') :: l')
 | _, [], _ => some []
 | _, _ :: _, [] => some []
def zmj : List Nm -> List Blk -> Ups
 | b :: l, k :: ks => (b, k) :: zmj l ks
 | [], _ => []
 | _ :: _, [] => []
def zDD (T n : Nat) : Nm -> Bool
 | .loc t j => !(t == T && Nat.blt j n)
 | .arg _ => true
def zOR (T n : Nat) : List Nm -> Bool
 | [] => true
 | b :: l => zDD T n b && zOR T n l
def zvE (byRef : Bool) (args : List D) : M (List D × List Nm) := if byRef then pure (args, []) else zfY (zjj 8) args
def zJh (call : List D -> List Blk -> Option Res) (T : Nat) (as : List D) (rids : List Nm) : M (D × Ups) := do
 let L <- zDq 64 (ztB as) []
 let fz <- zhT rids
 let ks <- zFr L
 let as' <- M.lift (zr7 (rin L) as)
 let sub <- M.lift (zqh (rin L) (zvY rids L ks))
 let r <- M.lift (call as' sub)
 M.guard (decide (r.args.length = L.length))
 M.guard (zOR T r.esc.length L)
 let sh <- zzQ T 0 r.esc
 let v <- M.lift (ren (zLX L T sh) r.val)
 let back <- M.lift (zqh (zLX L T sh) r.args)
 let esc <- M.lift (zoh (zLX L T sh) T 0 sh r.esc)
 pure (v, (if L.isEmpty && (zxr r.val && r.esc.isEmpty) then [] else fz) ++ (zmj L back ++ esc))
def zJg (call : List D -> List Blk -> Option Res) (T : Nat) (q : List D × List Nm) : Option (List D -> Option D) -> M (D × Ups)
 | some p => do
   let _ <- zhT q.2
   let v <- M.lift (p q.1)
   pure (v, [])
 | none => zJh call T q.1 q.2
def zPd (C : Cfg) (call : FuncId -> List D -> List Blk -> Option Res) (T : Nat) (f : FuncId) (args : List D) : M (D × Ups) := do
 let q <- zvE (C.byRef f) args
 zJg (call f) T q (C.prim f)
def one (x : M (D × Ups)) : M (List (D × Ups)) := do
 let r <- x
 pure [r]
def val (x : M D) : M (List (D × Ups)) := do
 let v <- x
 pure [(v, [])]
def zm7 : D := .tup []
def eff (x : M Ups) : M (List (D × Ups)) := do
 let us <- x
 pure [(zm7, us)]
def ztj (P : Program) (T : Nat) (ts : List TypeId) : Builtin -> List D -> M (List (D × Ups))
 | .len, [x] => val (zWE P x ts)
 | .append, [s, x] => one (zD3 P T s x ts)
 | .min, x :: r => val (M.lift (zHS zZu x r))
 | .max, x :: r => val (M.lift (zHS zWD x r))
 | .cap, [x] => val (zZz P x ts)
 | .copy, [d, x] => one (zQ0 P d x ts)
 | .clear, [x] => eff (zNi P x ts)
 | _, _ => .fail
def zkj : Operand -> Bool
 | .const _ => true
 | _ => false
def zO9 (a b : D) : D -> Option D
 | .bool t => some (if t then a else b)
 | _ => none
def zWC : D -> Option D
 | .ptr b g r o => some (.ptr b g r o)
 | .eptr r o => some (.eptr r o)
 | .fn (.func f) a b => some (.fn (.func f) a b)
 | _ => none
def zHK : TK -> Bool
 | .iface => true
 | _ => false
def zzp (i : Nat) : D -> Option D
 | .tup ds => ds[i]?
 | _ => none
def zNj (C : Cfg) (call : FuncId -> List D -> List Blk -> Option Res) (T : Nat) (args : List D) : D -> M (List (D × Ups))
 | .fn (.func g) a b => one (zPd C call T g (a ++ (args ++ b)))
 | _ => .fail
def zqz (C : Cfg) (call : FuncId -> List D -> List Blk -> Option Res) (T : Nat) (ρ : Operand -> D) (ts : List TypeId) (args : List D) : Callee -> M (List (D × Ups))
 | .builtin b => ztj C.P T ts b args
 | .value f => zNj C call T args (ρ f)
 | .invoke _ _ => .fail
def T0 : Option Nat -> Nat
 | some t => t
 | none => 99999
def dop (C : Cfg) (call : FuncId -> List D -> List Blk -> Option Res) (ρ : Operand -> D) (dst : Option Nat) : Op -> M (List (D × Ups))
 | .move x => pure [(ρ x, [])]
 | .assign x => pure [(ρ x, [])]
 | .pick c a b => val (M.lift (zO9 (ρ a) (ρ b) (ρ c)))
 | .alloc t => one (zJj C.P (T0 dst) t)
 | .box t x => one (zWK C.P (T0 dst) t (ρ x))
 | .build t ps => val (M.lift (zJi C.P t (ps.toList.map fun p => (p.1, ρ p.2))))
 | .buildSlice t len ps => one (zqA C.P (T0 dst) t len (ps.toList.map fun p => (p.1, ρ p.2)))
 | .load t a => val (zM6 C.P t (ρ a))
 | .store t a x => eff (zI8 C.P t (ρ a) (ρ x))
 | .nilCheck x => val (M.lift (zWC (ρ x)))
 | .binOp op t x y _ => val (M.lift (zP0 C.P op t (zkj x || zkj y) (ρ x) (ρ y)))
 | .unOp op _ x => val (M.lift (dun op (ρ x)))
 | .convert s d x => one (zzr C.P (T0 dst) s d (ρ x))
 | .makeInterface t x => do
   let k <- M.lift (kOf C.P t)
   M.guard (!(zHK k))
   pure [(.iface t (ρ x), [])]
 | .makeFunc f a b => pure [(.fn f (a.toList.map ρ) (b.toList.map ρ), [])]
 | .makeMap t r => one (zzo C.P (T0 dst) t (r.map ρ))
 | .makeSlice t l c => one (ztg C.P (T0 dst) t (ρ l) (ρ c))
 | .slice t x l h m => val (zI9 C.P t (ρ x) (l.map ρ) (h.map ρ) (m.map ρ))
 | .fieldAddr t x f => val (M.lift (zti C.P t (ρ x) f))
 | .field t x f => val (M.lift (zJe C.P t (ρ x) f))
 | .indexAddr t x i => val (zth C.P t (ρ x) (ρ i))
 | .index t x i => val (M.lift (zJd C.P t (ρ x) (ρ i)))
 | .lookup t x i ok => val (zDU C.P t (ρ x) (ρ i) ok)
 | .mapUpdate t m k x => eff (zsq C.P t (ρ m) (ρ k) (ρ x))
 | .insert t m k x => eff (zsq C.P t (ρ m) (ρ k) (ρ x))
 | .range t x => one (zJa C.P (T0 dst) t (ρ x))
 | .next it s => zPa s (ρ it)
 | .entry it => val (zJf (ρ it))
 | .extract t i => val (M.lift (zzp i (ρ t)))
 | .call c => zqz C call (T0 dst) ρ c.argTypes.toList (c.args.toList.map ρ) c.callee
 | _ => .fail
def Env.put (e : Env) (v : D) : Option Nat -> Env
 | some t => e.upd t v
 | none => e
def St.put (s : St) (dst : Option Nat) (r : D × Ups) : St := ⟨s.env.put r.1 dst, s.mem.upds r.2⟩
def zpY : Bool -> D -> Option Bool
 | true, .bool b => some b
 | false, .bool b => some !b
 | true, .tup [] => some false
 | false, .tup [] => some false
 | _, _ => none
def sel {α : Type} (a b : Option α) : Bool -> Option α
 | true => a
 | false => b
def zli (ops : Array Oper) (e : Env) : Option (Nat × Bool) -> Option Bool
 | none => some true
 | some g => bnd (bnd ops[g.1]? Oper.dst) fun t => zpY g.2 (e t)
def zHl : Option Res -> Option Res -> Bool
 | some a, some b => zog a.val b.val && zvA a.args b.args && zvA a.esc b.esc
 | _, _ => false
def zAL : List (Option Res) -> Option Res
 | [] => none
 | [r] => r
 | r :: q :: l => if zHl r (zAL (q :: l)) then r else none
def ways (k : D × Ups -> Option Res) : List (D × Ups) -> Option Res
 | [] => none
 | [r] => k r
 | r :: q :: l => zAL ((r :: q :: l).map k)
def zN2 (C : Cfg) (call : FuncId -> List D -> List Blk -> Option Res) (ops : Array Oper) (k : St -> Option Res) : List Oper -> St -> Option Res
 | [], s => k s
 | o :: rest, s =>
   bnd (zli ops s.env o.guard) fun b =>
    sel (bnd ((dop C call (opd s.env) o.dst o.op).run s.mem []) fun p => ways (fun r => zN2 C call ops k rest (s.put o.dst r)) p.1)
     (zN2 C call ops k rest (s.put o.dst (zm7, []))) b
structure Trc where
 st : St
 rd : List Nm
 wr : List Nm
def zFC (s : St) (dst : Option Nat) : List (D × Ups) × List Nm -> Option Trc
 | ([r], l) => some ⟨s.put dst r, l, r.2.map (·.1)⟩
 | _ => none
def zv1 (C : Cfg) (call : FuncId -> List D -> List Blk -> Option Res) (ops : Array Oper) (o : Oper) (s : St) : Option Trc :=
 bnd (zli ops s.env o.guard) fun b =>
  sel (bnd ((dop C call (opd s.env) o.dst o.op).run s.mem []) (zFC s o.dst)) (some ⟨s.put o.dst (zm7, []), [], []⟩) b
abbrev zEM := Nat × List Nm × List Nm
def zO8 (C : Cfg) (call : FuncId -> List D -> List Blk -> Option Res) (ops : Array Oper) : Nat -> List Oper -> St -> Option (St × List zEM)
 | _, [], s => some (s, [])
 | i, o :: rest, s => bnd (zv1 C call ops o s) fun t => bnd (zO8 C call ops (i + 1) rest t.st) fun q => some (q.1, (i, t.rd, t.wr) :: q.2)
def orl (a : Bool) (b : Unit -> Bool) : Bool := a || b ()
def zAr (ops : Array Oper) (j : Nat) : List Edge :=
 match ops[j]? with
 | some o => o.after.toList
 | none => []
def zyw : Ground -> Bool
 | .textOnly _ => false
 | .gcOnly _ => false
 | .data => true
 | .chain => true
 | .guard => true
 | .phase => true
def zuQ (f : Nat -> Bool) (j : Nat) : List Edge -> Bool
 | [] => false
 | e :: l => orl (zyw e.ground && decide (e.on < j) && f e.on) fun _ => zuQ f j l
def zmc (ops : Array Oper) (i : Nat) : Nat -> Nat -> Bool
 | 0, _ => false
 | n + 1, j => orl (zuQ (fun x => x == i) j (zAr ops j)) fun _ => zuQ (fun x => zmc ops i n x) j (zAr ops j)
def zRI : List Nm -> List Nm -> Bool
 | [], _ => true
 | x :: l, b => !(b.contains x) && zRI l b
def zCS (x y : zEM) : Bool := zRI x.2.2 y.2.1 && (zRI x.2.2 y.2.2 && zRI y.2.2 x.2.1)
def zAF (ops : Array Oper) (x : zEM) : List zEM -> Bool
 | [] => true
 | y :: l => orl (zCS x y) (fun _ => zmc ops x.1 64 y.1) && zAF ops x l
def zPl (ops : Array Oper) : List zEM -> Bool
 | [] => true
 | x :: l => zAF ops x l && zPl ops l
def zbU (body : (Ex -> St -> Option Res) -> St -> Option Res) (k : Ex -> St -> Option Res) : Nat -> St -> Option Res
 | 0, _ => none
 | n + 1, s => body (fun ex s' => match ex with
   | .normal => zbU body k n s'
   | e => k e s') s
def onB {α : Type} (a b : Option α) : D -> Option α
 | .bool t => sel a b t
 | _ => none
def zbt (C : Cfg) (call : FuncId -> List D -> List Blk -> Option Res) (n : Nat) : Code -> (Ex -> St -> Option Res) -> St -> Option Res
 | .skip, k, s => k .normal s
 | .label _, k, s => k .normal s
 | .region _ ops draw, k, s =>
   sel (bnd (zO8 C call ops 0 ops.toList s) fun q => bnd (ok (zPl ops q.2)) fun _ => k .normal q.1) (zN2 C call ops (k .normal) ops.toList s) draw
 | .seq a b, k, s => zbt C call n a (fun ex s' => match ex with
   | .normal => zbt C call n b k s'
   | e => k e s') s
 | .cond c a b, k, s => onB (zbt C call n a k s) (zbt C call n b k s) (opd s.env c)
 | .block id c, k, s => zbt C call n c (fun ex s' => match ex with
   | .exit i => if i = id then k .normal s' else k (.exit i) s'
   | e => k e s') s
 | .loop c, k, s => zbU (zbt C call n c) k n s
 | .exit id, k, s => k (.exit id) s
 | .ret, k, s => k .ret s
 | _, _, _ => none
def zRi (args : List D) (t : Nat) : D := args.getD t zm7
def zph (mem : List Blk) : Mem
 | .arg i => mem[i]?
 | .loc _ _ => none
def zCn (P : Program) (e : Env) : ResultVar -> M D
 | .tmp t => pure (e t)
 | .cell a t => zM6 P t (e a)
def zuC (P : Program) (e : Env) : List ResultVar -> M (List D)
 | [] => pure []
 | r :: l => do
   let d <- zCn P e r
   let ds <- zuC P e l
   pure (d :: ds)
def zLz : List D -> D
 | [d] => d
 | [] => .tup []
 | a :: b :: l => .tup (a :: b :: l)
def zGU (na : Nat) (esc : List Nm) : Nm -> Option (Nm × Nat)
 | .arg i => if i < na then some (.arg i, 0) else none
 | .loc t j => bnd (idx (.loc t j) esc) fun i => some (.loc 0 i, 0)
def zAl : Nm -> Bool
 | .loc _ _ => true
 | .arg _ => false
def zqL (n : Nat) : List Nm := (List.range n).map .arg
def zIf : List Blk -> List Nm
 | [] => []
 | k :: l => k.ids ++ zIf l
def zDp (byRef : Bool) (d : D) : M (D × List Nm) := if byRef then pure (d, []) else zjj 9 d
def zCB (C : Cfg) (f : FuncId) (rs : List ResultVar) (na : Nat) (e : Env) : M Res := do
 let ds <- zuC C.P e rs
 let q <- zDp (C.byRef f || C.byRes f) (zLz ds)
 let _ <- zhT q.2
 let ks <- zFr (zqL na)
 let L <- zDq 64 (ids q.1 ++ zIf ks) []
 let es <- zFr (L.filter zAl)
 let v' <- M.lift (ren (zGU na (L.filter zAl)) q.1)
 let ks' <- M.lift (zqh (zGU na (L.filter zAl)) (zvY q.2 (zqL na) ks))
 let es' <- M.lift (zqh (zGU na (L.filter zAl)) (zvY q.2 (L.filter zAl) es))
 pure ⟨v', ks', es'⟩
def zWI (C : Cfg) (f : FuncId) (rs : List ResultVar) (na : Nat) : Ex -> St -> Option Res
 | .exit _, _ => none
 | .normal, s => bnd ((zCB C f rs na s.env).run s.mem []) fun p => some p.1
 | .ret, s => bnd ((zCB C f rs na s.env).run s.mem []) fun p => some p.1
def zZw (C : Cfg) (call : FuncId -> List D -> List Blk -> Option Res) (n : Nat) (f : FuncId) (args : List D) (mem : List Blk) : Option (List D -> List Blk -> Option Res) -> Option Res
 | some F => F args mem
 | none => bnd C.P.funcs[f]? fun fn => bnd fn.body fun c => bnd (ok (C.fine f)) fun _ =>
  zbt C call n c (zWI C f fn.results.toList mem.length) ⟨zRi args, zph mem⟩
def dfn (C : Cfg) : Nat -> FuncId -> List D -> List Blk -> Option Res
 | 0, _, _, _ => none
 | n + 1, f, args, mem => zZw C (dfn C n) n f args mem (C.alt f)
abbrev YK := Ex -> St -> Option Res
abbrev YL := Option Res
end Go.Ev
namespace Go.Ev
@[go_sem] theorem Env.upd_at (e : Env) (t : Nat) (v : D) (x : Nat) : (e.upd t v) x = if x = t then v else e x := rfl
@[go_sem] theorem Mem.upd_at (m : Mem) (b c : Nm) (k : Blk) : (m.upd b k) c = if c = b then some k else m c := rfl
attribute [go_sem] Mem.upds St.put Env.put.eq_1 Env.put.eq_2 Blk.gen.eq_1 zck.eq_1 zck.eq_2 zTm.eq_1 opd.eq_1 opd.eq_2 opd.eq_4 cellsOf.eq_1 cellsOf.eq_3 cellsOf.eq_4 cellsOf.eq_6 cellsOf.eq_9 cellsOf.eq_13 zKi zcl cell.eq_5 cell.eq_6 cell.eq_8 cell.eq_10 cell.eq_11 cell.eq_15 cell.eq_16 zbc still.eq_2 still.eq_3 still.eq_5 still.eq_8 still.eq_13 still.eq_15 still.eq_18 zhQ zxr zAq part
attribute [go_sem] ids ztB zZp zZq Blk.ids ren zr7 zRu zRx zhS zqh zoh
attribute [go_sem] ofV.eq_2 ofV.eq_3 ofV.eq_4 ofV.eq_6 ofV.eq_9 zql only.eq_1
attribute [go_sem] zFZ.eq_2 zFZ.eq_3 zjT.eq_1 zjT.eq_2 zWG.eq_1 zQZ.eq_1 zEK zQU.eq_1 zQU.eq_2 zQU.eq_3 zQU.eq_4 zPV.eq_1 zPV.eq_2 dun.eq_1 dun.eq_3 zJe zDW.eq_1 zJd.eq_1 zkk zlh zH4.eq_1 zJi zJt.eq_1 znw zWD.eq_1 zHS
attribute [go_sem] zGv.eq_1 zjH znh zfY zjj zCA.eq_1 zhT zJj zWK zJc.eq_1 zJc.eq_2 zM6 zHV.eq_1 zI8 zCU.eq_1 zCU.eq_2 zqx.eq_1 zti zsr.eq_2 zqw.eq_1 zth.eq_1
attribute [go_sem] zI9 zoM.eq_2 zoM.eq_3 zhR.eq_1 zr3.eq_1 zr3.eq_2 zv3.eq_1 zv3.eq_2 zD3.eq_1 ztg zte zHq zqA zBK.eq_1 zoQ zM7.eq_1 zWE.eq_1 zQK.eq_1 zAG.eq_2 zlN.eq_1 zlN.eq_3 zzr
attribute [go_sem] zm9.eq_1 zuI zug.eq_1 zqq.eq_1 zMJ.eq_1 zHB zzo zDU zLO.eq_2 zqu.eq_1 zlj zsq zDR.eq_1 zDR.eq_3 zJa zJ9 zMs.eq_1 zMs.eq_3 zPa.eq_1 zM1.eq_1 zJf.eq_1
attribute [go_sem] idx zTA.eq_1 zDq rin zLX.eq_1 zLX.eq_2 zFr ztC.eq_1 zvY zzQ zDD.eq_1 zDD.eq_2 zOR zmj zvE zJh zJg.eq_1 zJg.eq_2 zPd one val zm7 eff ztj.eq_1 ztj.eq_2 ztj.eq_4 zNg zkj.eq_1 zO9.eq_1 zWC.eq_1 zzp.eq_1 zNj.eq_1 zqz.eq_1 zqz.eq_2 T0.eq_1 dop.eq_1 dop.eq_2 dop.eq_3 dop.eq_4 dop.eq_5 dop.eq_6 dop.eq_7 dop.eq_8 dop.eq_9 dop.eq_10 dop.eq_11 dop.eq_12 dop.eq_13 dop.eq_15 dop.eq_16 dop.eq_18 dop.eq_19 dop.eq_21 dop.eq_22 dop.eq_25 dop.eq_26 dop.eq_27 dop.eq_28 dop.eq_29 dop.eq_30
attribute [go_sem] zpY.eq_1 zpY.eq_2 zpY.eq_3 zpY.eq_4 zli.eq_1 zli.eq_2 zFC.eq_1 zRI zCS zAF zPl zAr zyw.eq_3 zyw.eq_4 zyw.eq_6 zuQ zmc zRi zph.eq_1 zph.eq_2 zCn.eq_1 zCn.eq_2 zuC zLz.eq_1 zLz.eq_3 zGU.eq_1 zGU.eq_2 zAl.eq_1 zAl.eq_2 zqL zIf zDp zCB zWI.eq_3 dfn zZw.eq_2 zrp
@[go_sem] theorem z1Z (k : IntKind) : TK.agg (.int k) = false := rfl
@[go_sem] theorem z1Y  : TK.agg (.str) = false := rfl
@[go_sem] theorem z1X  : TK.agg (.ptr) = false := rfl
@[go_sem] theorem z1W (e : TypeId) : TK.agg (.slice e) = false := rfl
@[go_sem] theorem z1V  : TK.agg (.func) = false := rfl
@[go_sem] theorem zZo  : zDI (.str) = false := rfl
@[go_sem] theorem zZn (e : TypeId) : zDI (.slice e) = false := rfl
@[go_sem] theorem z1U (fs : List (TypeId × Nat)) : TK.agg (.struct fs) = true := rfl
@[go_sem] theorem z1I (t : Nat) : zkj (.tmp t) = false := rfl
@[go_sem] theorem z1Q (P : Program) (t : TypeId) (c a b : Bool) : deq P t c (.bool a) (.bool b) = bnd (kOf P t) (zQZ c (.bool a) (.bool b)) := rfl
@[go_sem] theorem z1a (P : Program) (op : BinOp) (t : TypeId) (c a b : Bool) : zP0 P op t c (.bool a) (.bool b) = zPV P t c (.bool a) (.bool b) op := rfl
@[go_sem] theorem z1P (P : Program) (t : TypeId) (c : Bool) (xs ys : List D) : deq P t c (.agg xs) (.agg ys) = bnd (ok (zKw P t)) fun _ => bnd (kOf P t) (zWG P xs ys) := rfl
@[go_sem] theorem z09 (P : Program) (op : BinOp) (t : TypeId) (c : Bool) (xs ys : List D) : zP0 P op t c (.agg xs) (.agg ys) = zPV P t c (.agg xs) (.agg ys) op := rfl
attribute [go_sem] zP0.eq_1 zP0.eq_2 zqv.eq_1 zqv.eq_2
@[go_sem] theorem zT0 (k k2 : IntKind) (x y : Int) : zqv k k2 x y .add = if k = k2 then zEK k x y .add else none := rfl
@[go_sem] theorem zTP (k k2 : IntKind) (x y : Int) : zqv k k2 x y .sub = if k = k2 then zEK k x y .sub else none := rfl
@[go_sem] theorem zTT (k k2 : IntKind) (x y : Int) : zqv k k2 x y .mul = if k = k2 then zEK k x y .mul else none := rfl
@[go_sem] theorem zTR (k k2 : IntKind) (x y : Int) : zqv k k2 x y .quo = if k = k2 then zEK k x y .quo else none := rfl
@[go_sem] theorem zTQ (k k2 : IntKind) (x y : Int) : zqv k k2 x y .rem = if k = k2 then zEK k x y .rem else none := rfl
@[go_sem] theorem zTZ (k k2 : IntKind) (x y : Int) : zqv k k2 x y .and = if k = k2 then zEK k x y .and else none := rfl
@[go_sem] theorem zWF (k k2 : IntKind) (x y : Int) : zqv k k2 x y .or = if k = k2 then zEK k x y .or else none := rfl
@[go_sem] theorem zTO (k k2 : IntKind) (x y : Int) : zqv k k2 x y .xor = if k = k2 then zEK k x y .xor else none := rfl
@[go_sem] theorem zTY (k k2 : IntKind) (x y : Int) : zqv k k2 x y .eql = if k = k2 then zEK k x y .eql else none := rfl
@[go_sem] theorem zTS (k k2 : IntKind) (x y : Int) : zqv k k2 x y .neq = if k = k2 then zEK k x y .neq else none := rfl
@[go_sem] theorem zTU (k k2 : IntKind) (x y : Int) : zqv k k2 x y .lss = if k = k2 then zEK k x y .lss else none := rfl
@[go_sem] theorem zTV (k k2 : IntKind) (x y : Int) : zqv k k2 x y .leq = if k = k2 then zEK k x y .leq else none := rfl
@[go_sem] theorem zTW (k k2 : IntKind) (x y : Int) : zqv k k2 x y .gtr = if k = k2 then zEK k x y .gtr else none := rfl
@[go_sem] theorem zTX (k k2 : IntKind) (x y : Int) : zqv k k2 x y .geq = if k = k2 then zEK k x y .geq else none := rfl
@[go_sem] theorem zPX (P : Program) (T : Nat) (b : Nm) (g o l : Nat) (e : TypeId) : zlN P T (.own b g o l) (.slice e) .str = (do
  let ke <- M.lift (kOf P e)
  M.guard (zQK ke)
  let rs <- zAG (.own b g o l)
  let bs <- M.lift (znw rs)
  pure (.str bs, [])) := rfl
attribute [go_sem] yC yI yH yX List.take_succ_cons List.take_zero List.take_nil List.drop_succ_cons yg List.drop_nil yZ yS List.append_nil yR yr List.isEmpty_cons List.isEmpty_nil List.set_cons_zero List.set_cons_succ List.range_succ List.range_zero List.getD_cons_zero List.getD_cons_succ List.filter_cons List.filter_nil List.all_cons List.all_nil List.contains_cons List.contains_nil List.replicate yE
attribute [go_sem] ge_iff_le gt_iff_lt decide_true decide_false ye yx yz Bool.and_true Bool.false_and Bool.and_false Bool.true_or Bool.or_true Bool.false_or Bool.or_false Bool.not_not yf Option.map_none Option.bind_some
attribute [go_sem] M.run_pure M.run_peek M.run_lift M.run_guard zMo
structure Tok {α : Type} (a : α) : Type where
def z1j {α β : Type} (x : Option α) (f : α -> Option β) (_ : Tok f) : Option β := bnd x f
@[go_sem ↓] theorem z1T {α β : Type} (x : Option α) (f : α -> Option β) : bnd x f = z1j x f ⟨⟩ := rfl
@[go_sem] theorem zWk {α β : Type} (a : α) (f : α -> Option β) (t : Tok f) : z1j (some a) f t = f a := rfl
def zWw {α : Type} (a b : Option α) (_ : Tok (a, b)) (d : Bool) : Option α := sel a b d
@[go_sem ↓] theorem z1w {α : Type} (a b : Option α) (d : Bool) : sel a b d = zWw a b ⟨⟩ d := rfl
@[go_sem] theorem zTd {α : Type} (a b : Option α) (t : Tok (a, b)) : zWw a b t true = a := rfl
@[go_sem] theorem zRs {α : Type} (a b : Option α) (t : Tok (a, b)) : zWw a b t false = b := rfl
def z04 {α : Type} (a b : Option α) (_ : Tok (a, b)) (d : D) : Option α := onB a b d
@[go_sem ↓] theorem z1y {α : Type} (a b : Option α) (d : D) : onB a b d = z04 a b ⟨⟩ d := rfl
@[go_sem] theorem zTp {α : Type} (a b : Option α) (t : Tok (a, b)) (d : Bool) : z04 a b t (.bool d) = zWw a b ⟨⟩ d := rfl
def zQd (k : D × Ups -> Option Res) (_ : Tok k) (l : List (D × Ups)) : Option Res := ways k l
@[go_sem ↓] theorem z01 (k : D × Ups -> Option Res) (l : List (D × Ups)) : ways k l = zQd k ⟨⟩ l := rfl
@[go_sem] theorem zS2 (k : D × Ups -> Option Res) (t : Tok k) (r : D × Ups) : zQd k t [r] = k r := rfl
def zM8 (body : (Ex -> St -> Option Res) -> St -> Option Res) (k : YK) (n : Nat) (_ : Tok (body, k, n)) (s : St) : Option Res := zbU body k n s
@[go_sem ↓] theorem zZv (body : (Ex -> St -> Option Res) -> St -> Option Res) (k : YK) (n : Nat) (s : St) : zbU body k n s = zM8 body k n ⟨⟩ s := rfl
def zQX (C : Cfg) (call : FuncId -> List D -> List Blk -> Option Res) (ops : Array Oper) (k : St -> Option Res) (l : List Oper) (_ : Tok (C, call, ops, k, l)) (s : St) : Option Res := zN2 C call ops k l s
@[go_sem ↓] theorem z08 (C : Cfg) (call : FuncId -> List D -> List Blk -> Option Res) (ops : Array Oper) (k : St -> Option Res) (l : List Oper) (s : St) : zN2 C call ops k l s = zQX C call ops k l ⟨⟩ s := rfl
@[go_sem] theorem zTN (C : Cfg) (call : FuncId -> List D -> List Blk -> Option Res) (ops : Array Oper) (k : St -> Option Res) (t : Tok (C, call, ops, k, [])) (s : St) : zQX C call ops k [] t s = k s := rfl
@[go_sem] theorem zRH (C : Cfg) (call : FuncId -> List D -> List Blk -> Option Res) (ops : Array Oper) (k : St -> Option Res) (o : Oper) (l : List Oper) (t : Tok (C, call, ops, k, o :: l)) (s : St) : zQX C call ops k (o :: l) t s =
 bnd (zli ops s.env o.guard) fun b =>
  sel (bnd ((dop C call (opd s.env) o.dst o.op).run s.mem []) fun p => ways (fun r => zN2 C call ops k l (s.put o.dst r)) p.1)
   (zN2 C call ops k l (s.put o.dst (zm7, []))) b := rfl
def zQV (C : Cfg) (call : FuncId -> List D -> List Blk -> Option Res) (ops : Array Oper) (i : Nat) (l : List Oper) (_ : Tok (C, call, ops, i, l)) (s : St) : Option (St × List zEM) := zO8 C call ops i l s
@[go_sem ↓] theorem z07 (C : Cfg) (call : FuncId -> List D -> List Blk -> Option Res) (ops : Array Oper) (i : Nat) (l : List Oper) (s : St) : zO8 C call ops i l s = zQV C call ops i l ⟨⟩ s := rfl
@[go_sem] theorem zTM (C : Cfg) (call : FuncId -> List D -> List Blk -> Option Res) (ops : Array Oper) (i : Nat) (t : Tok (C, call, ops, i, [])) (s : St) : zQV C call ops i [] t s = some (s, []) := rfl
@[go_sem] theorem zRG (C : Cfg) (call : FuncId -> List D -> List Blk -> Option Res) (ops : Array Oper) (i : Nat) (o : Oper) (l : List Oper) (t : Tok (C, call, ops, i, o :: l)) (s : St) : zQV C call ops i (o :: l) t s =
 bnd (bnd (zli ops s.env o.guard) fun b =>
  sel (bnd ((dop C call (opd s.env) o.dst o.op).run s.mem []) (zFC s o.dst)) (some ⟨s.put o.dst (zm7, []), [], []⟩) b)
  fun t => bnd (zO8 C call ops (i + 1) l t.st) fun q => some (q.1, (i, t.rd, t.wr) :: q.2) := rfl
def zuj (C : Cfg) (call : FuncId -> List D -> List Blk -> Option Res) (n : Nat) (c : Code) (k : YK) (_ : Tok (C, call, n, c, k)) (s : St) : Option Res := zbt C call n c k s
@[go_sem ↓] theorem zZy (C : Cfg) (call : FuncId -> List D -> List Blk -> Option Res) (n : Nat) (c : Code) (k : YK) (s : St) : zbt C call n c k s = zuj C call n c k ⟨⟩ s := rfl
section
variable (C : Cfg) (call : FuncId -> List D -> List Blk -> Option Res) (n : Nat) (k : YK) (s : St)
@[go_sem] theorem zQ1 (t : Tok (C, call, n, Code.skip, k)) : zuj C call n .skip k t s = k .normal s := rfl
@[go_sem] theorem zPY (i : Nat) (l : List Oper) (t : Tok (C, call, n, Code.region i l.toArray false, k)) : zuj C call n (.region i l.toArray false) k t s = zN2 C call l.toArray (k .normal) l s := rfl
@[go_sem] theorem zQ4 (i : Nat) (l : List Oper) (t : Tok (C, call, n, Code.region i l.toArray true, k)) : zuj C call n (.region i l.toArray true) k t s = bnd (zO8 C call l.toArray 0 l s) fun q => bnd (ok (zPl l.toArray q.2)) fun _ => k .normal q.1 := rfl
@[go_sem] theorem zRJ (a b : Code) (t : Tok (C, call, n, Code.seq a b, k)) : zuj C call n (.seq a b) k t s = zbt C call n a (fun ex s' => match ex with
 | .normal => zbt C call n b k s'
 | e => k e s') s := rfl
@[go_sem] theorem zQ5 (c : Operand) (a b : Code) (t : Tok (C, call, n, Code.cond c a b, k)) : zuj C call n (.cond c a b) k t s = onB (zbt C call n a k s) (zbt C call n b k s) (opd s.env c) := rfl
@[go_sem] theorem zPZ (i : Nat) (a : Code) (t : Tok (C, call, n, Code.block i a, k)) : zuj C call n (.block i a) k t s = zbt C call n a (fun ex s' => match ex with
 | .exit j => if j = i then k .normal s' else k (.exit j) s'
 | e => k e s') s := rfl
@[go_sem] theorem zQ2 (a : Code) (t : Tok (C, call, n, Code.loop a, k)) : zuj C call n (.loop a) k t s = zbU (zbt C call n a) k n s := rfl
@[go_sem] theorem zQ3 (i : Nat) (t : Tok (C, call, n, Code.exit i, k)) : zuj C call n (.exit i) k t s = k (.exit i) s := rfl
@[go_sem] theorem zRK (t : Tok (C, call, n, Code.ret, k)) : zuj C call n .ret k t s = k .ret s := rfl
end
def zZg (a : Bool) (b : Unit -> Bool) (_ : Tok b) : Bool := orl a b
@[go_sem ↓] theorem z1x (a : Bool) (b : Unit -> Bool) : orl a b = zZg a b ⟨⟩ := rfl
@[go_sem] theorem zTj (b : Unit -> Bool) (t : Tok b) : zZg true b t = true := rfl
@[go_sem] theorem zRA (b : Unit -> Bool) (t : Tok b) : zZg false b t = b () := rfl
def zWl {α β : Type} (x : M α) (f : α -> M β) (_ : Tok f) : M β := x >>= f
@[go_sem ↓] theorem z1k {α β : Type} (x : M α) (f : α -> M β) : (x >>= f) = zWl x f ⟨⟩ := rfl
@[go_sem] theorem zTe {α β : Type} (m : Mem) (l : List Nm) (x : M α) (f : α -> M β) (t : Tok f) : (zWl x f t).run m l = bnd (x.run m l) fun p => (f p.1).run m p.2 := M.run_bind m l x f
@[go_sem] theorem zT6 {α : Type} (a : α) (l : List α) (n : Nat) : cut (a :: l) 0 (n + 1) = a :: cut l 0 n := by
  simp only [cut, yC, yg, List.take_succ_cons, true_and]
  by_cases h : n = l.length
  · simp [h]
  · rw [if_neg YJ, if_neg h]
@[go_sem] theorem zWO {α : Type} (l : List α) (a : Nat) : cut l a 0 = [] := by
  unfold cut; split
  · rename_i h; exact List.eq_nil_of_length_eq_zero h.2.symm
  · simp
@[go_sem] theorem zWP {α : Type} (a : α) (l : List α) (k n : Nat) : cut (a :: l) (k + 1) n = (l.drop k).take n := by simp [cut]
@[go_sem] theorem zWy {α : Type} (a : α) (l new : List α) (k : Nat) : put (a :: l) (k + 1) new = a :: put l k new := by
  simp [put, Nat.add_right_comm]
@[go_sem] theorem zTh {α : Type} (a b : α) (l new : List α) : put (a :: l) 0 (b :: new) = b :: put l 0 new := by simp [put]
@[go_sem] theorem zTg {α : Type} (l : List α) : put l 0 [] = l := by simp [put]
end Go.Ev
namespace Go.Ev
structure Sl (α : Type) where
 fl : Fl
 l : List α
abbrev Str := List UInt8
def Sl.nil {α : Type} : Sl α := ⟨.nil, []⟩
def Sl.of {α : Type} (l : List α) : Sl α := ⟨.any, l⟩
def cI (k : IntKind) (n : Int) : List D := [.int k n]
def zsz (s : Str) : List D := [.str s]
def dSl {α : Type} (c : α -> List D) (s : Sl α) : D := .sl s.fl (s.l.map c)
def cSl {α : Type} (c : α -> List D) (s : Sl α) : List D := [dSl c s]
theorem zfL (a b : List D) : zcl (a ++ b) = (zcl a && zcl b) := by
 induction a with
 | nil => simp [zcl]
 | cons x a ih => simp [zcl, ih, Bool.and_assoc]
theorem zex (a b : List D) : zbc (a ++ b) = (zbc a && zbc b) := by
 induction a with
 | nil => simp [zbc]
 | cons x a ih => simp [zbc, ih, Bool.and_assoc]
theorem zjR (a b : List D) : ztB (a ++ b) = ztB a ++ ztB b := by
 induction a with
 | nil => simp [ztB]
 | cons x a ih => simp [ztB, ih, yT]
theorem zjP (ρ : Nm -> Option (Nm × Nat)) (a b : List D) : zr7 ρ (a ++ b) = (zr7 ρ a).bind fun x => (zr7 ρ b).map fun y => x ++ y := by
 induction a with
 | nil => simp [zr7]
 | cons x a ih =>
   simp only [yS, zr7, ih]
   cases ren ρ x <;> simp
   cases zr7 ρ a <;> simp
   cases zr7 ρ b <;> simp
theorem zyh {d : D} (h : still d = true) : ∀ n, zjj n d = pure (d, []) := by
 cases d <;> simp_all [still] <;> intro n <;> cases n <;> rfl
theorem zin {l : List D} {n : Nat} (h : zbc l = true) : zfY (zjj n) l = pure (l, []) := by
 induction l with
 | nil => rfl
 | cons d l ih =>
   simp only [zbc, yK] at h
   simp only [zfY, zyh h.1, ih h.2]
   rfl
@[go_sem] theorem zQ6 {α : Type} (c : α -> List D) (s : Sl α) : cellsOf (dSl c s) = [dSl c s] := rfl
@[go_sem] theorem zWN {α : Type} (c : α -> List D) (s : Sl α) : cell (dSl c s) = true := rfl
@[go_sem] theorem zT3 {α : Type} (c : α -> List D) (s : Sl α) : still (dSl c s) = true := rfl
@[go_sem] theorem zZE {α : Type} (c : α -> List D) (s : Sl α) : ids (dSl c s) = [] := rfl
@[go_sem] theorem zZB {α : Type} (ρ : Nm -> Option (Nm × Nat)) (c : α -> List D) (s : Sl α) : ren ρ (dSl c s) = some (dSl c s) := rfl
@[go_sem] theorem zT4 {α : Type} (n : Nat) (c : α -> List D) (s : Sl α) : zjj n (dSl c s) = pure (dSl c s, []) := zyh rfl n
@[go_sem] theorem zZD {α : Type} (c : α -> List D) (s : Sl α) (e : TypeId) : zM7 (dSl c s) (.slice e) = pure (.int .i64 s.l.length) := by
  simp [dSl, zM7]
noncomputable def okP (p : Prop) : Option Unit := open Classical in if p then some () else none
theorem zS4 {a n : Nat} (h : a + 1 <= n) : ∃ m, n = m + 1 := ⟨n - 1, by omega⟩
theorem zah {p : Prop} {u : Unit} (h : okP p = some u) : p := by
 unfold okP at h; split at h
 · assumption
 · cases h
theorem zar {p : Prop} (h : p) : okP p = some () := by unfold okP; rw [if_pos h]
def ix {α : Type} (l : List α) (i : Int) : Option α := if 0 <= i then l[i.toNat]? else none
theorem zaA {α : Type} {l : List α} {i : Int} {y : α} (h : ix l i = some y) : decide (0 <= i) = true /\ l[i.toNat]? = some y := by
 unfold ix at h; split at h
 · exact ⟨by simpa, h⟩
 · cases h
theorem zTs {α : Type} {l : List α} {i : Int} {y : α} (h : ix l i = some y) : decide (i < (l.length : Int)) = true := by
 obtain ⟨h1, h2⟩ := zaA h
 have := (yW.1 h2).1
 have := YF h1
 simp; omega
theorem zav {α β : Type} {l : List α} {i : Nat} {y : α} (h : l[i]? = some y) (c : α -> β) : (l.map c)[i]? = some (c y) := by
 rw [YA, h]; rfl
inductive Out (R S : Type) where
 | ret (r : R)
 | done (s : S)
def zgD {R S β : Type} (o : Option (Out R S)) (f : R -> Option β) (g : S -> Option β) : Option β :=
 match o with
 | some (.ret r) => f r
 | some (.done s) => g s
 | none => none
theorem zaw {R S β : Type} {o : Option (Out R S)} {f : R -> Option β} {g : S -> Option β} {b : β} (h : zgD o f g = some b) :
 (∃ r, o = some (.ret r) /\ f r = some b) ∨ ∃ s, o = some (.done s) /\ g s = some b := by
 match o, h with
 | some (.ret r), h => exact .inl ⟨r, rfl, h⟩
 | some (.done s), h => exact .inr ⟨s, rfl, h⟩
theorem zac {α : Type} {A B : Option α} {b : Bool} {r : α} (h : sel A B b = some r) : (b = true /\ A = some r) ∨ (b = false /\ B = some r) := by
 cases b
 · exact .inr ⟨rfl, h⟩
 · exact .inl ⟨rfl, h⟩
theorem zbG {a b : Bool} (h : (a && b) = true) : a = true /\ b = true := by simpa using h
theorem zbj {a b : Bool} (h : (a && b) = false) : a = false ∨ (a = true /\ b = false) := by cases a <;> simp_all
theorem zbL {a b : Bool} (h : (a || b) = true) : a = true ∨ (a = false /\ b = true) := by cases a <;> simp_all
theorem zaK {a b : Bool} (h : (a || b) = false) : a = false /\ b = false := by simpa using h
theorem zan {a : Bool} (h : (!a) = true) : a = false := by simpa using h
theorem zal {a : Bool} (h : (!a) = false) : a = true := by simpa using h
def Ev (C : Cfg) (f : FuncId) (args : List D) (d : D) : Prop := ∃ N, ∀ n, N <= n -> dfn C n f args [] = some ⟨d, [], []⟩
def zb9 (d : D) (m : Mem) (T sz : Nat) (cells : List D) : Prop := ∃ g, d = .ptr (.loc T 0) g 0 0 /\ m (.loc T 0) = some (.rows g false true sz [cells])
def zGL (d : D) (m : Mem) (T sz : Nat) (cells : List D) : Prop := ∃ g, d = .ptr (.loc T 0) g 0 0 /\ m (.loc T 0) = some (.rows g false false sz [cells])
theorem zap (body : (Ex -> St -> Option Res) -> St -> Option Res) (k : YK) (n : Nat) (s : St) : zbU body k (n + 1) s = body (fun ex s' => match ex with
 | .normal => zbU body k n s'
 | e => k e s') s := rfl
theorem zaf {body : (Ex -> St -> Option Res) -> St -> Option Res} {k : Ex -> St -> Option Res} {n : Nat} {s : St} {t : Tok (body, k, n)} {R : Option Res} (h : zbU body k n s = R) : zM8 body k n t s = R := h
def zTq (C : Cfg) (call : FuncId -> List D -> List Blk -> Option Res) (n : Nat) (c : Code) (k : YK) (_ : Tok (C, call, n, c, k)) (s : St) : Option Res := zbt C call n c k s
theorem zgv {C : Cfg} {call : FuncId -> List D -> List Blk -> Option Res} {n : Nat} {c : Code} {k : Ex -> St -> Option Res} {t : Tok (C, call, n, c, k)} {s : St} {R : Option Res} (h : zbt C call n c k s = R) : zTq C call n c k t s = R := h
theorem zeU (C : Cfg) (call : FuncId -> List D -> List Blk -> Option Res) (n : Nat) (c : Code) : ∀ (k : YK) (s : St), zbt C call n c k s = zTq C call n c k ⟨⟩ s := fun _ _ => rfl
def zGg : Code -> List Nat -> Code
 | .seq a b, i :: p => zGg (if i = 0 then a else b) p
 | .cond _ a b, i :: p => zGg (if i = 0 then a else b) p
 | .block _ a, _ :: p => zGg a p
 | .loop a, _ :: p => zGg a p
 | c, _ => c
def za4 (f : Func) (p : List Nat) : Code := zGg (f.body.getD .skip) p
theorem zL7 {α : Type} {l new : List α} {n : Nat} (h : l.length = n) (k : new.length = n) : put l 0 new = new := by
 unfold put; simp [h, k]
attribute [go_sem] cI zsz cSl yV
attribute [go_sem] yd Nm.loc.injEq Nm.arg.injEq false_and and_false true_and and_true and_self beq_self_eq_true List.contains_cons ite_self yF
@[go_sem] theorem z05 (x y : Nm) : (x == y) = decide (x = y) := rfl
@[go_sem] theorem z1m (b : Bool) : (b == true) = b := by cases b <;> rfl
@[go_sem] theorem z1n (b : Bool) : (b == false) = !b := by cases b <;> rfl
@[go_sem] theorem zRE : (Fl.nil != Fl.any) = true := rfl
@[go_sem] theorem z1b {α : Type} (c : α -> List D) (f : Fl) (l : List α) : dSl c ⟨f, l⟩ = .sl f (l.map c) := rfl
@[go_sem] theorem zZC {α : Type} (c : α -> List D) : dSl c Sl.nil = .sl .nil [] := rfl
@[go_sem] theorem zT5 {α : Type} (ti : TI) (n : Int) (c : α -> List D) (s : Sl α) : zsr ti n (dSl c s) = (do
 M.guard (decide (0 <= n))
 let row <- M.lift (s.l.map c)[n.toNat]?
 M.guard (decide (row.length = ti.size))
 pure (.eptr row 0)) := rfl
def s2b (s : Str) : List Int := s.map fun b => (b.toNat : Int)
def b2s (l : List Int) : Str := l.map fun n => UInt8.ofNat n.toNat
theorem zRg (s : Str) : b2s (s2b s) = s := by
 induction s with
 | nil => rfl
 | cons b s ih =>
   simp only [s2b, b2s, yR, List.cons.injEq] at ih ⊢
   exact ⟨by simp, ih⟩
theorem zDg (s : Str) : s.map zjU = (s2b s).map (cI .u8) := by simp [s2b, zjU, cI, Function.comp_def]
theorem zyx (l : List Int) : znw (l.map (cI .u8)) = some (b2s l) := by
 induction l with
 | nil => rfl
 | cons n l ih => simp only [yR, znw, ih, b2s]; rfl
@[go_sem] theorem zZc (n : Int) (l : List Int) : b2s (n :: l) = UInt8.ofNat n.toNat :: b2s l := rfl
@[go_sem] theorem z0U : b2s [] = [] := rfl
@[go_sem] theorem zPc (P : Program) (T : Nat) (s : Sl Int) (e : TypeId) : zlN P T (dSl (cI .u8) s) (.slice e) .str = (do
  let ke <- M.lift (kOf P e)
  M.guard (zQK ke)
  pure (.str (b2s s.l), [])) := by
  have h : zlN P T (dSl (cI .u8) s) (.slice e) .str = (do
   let ke <- M.lift (kOf P e)
   M.guard (zQK ke)
   let bs <- M.lift (znw (s.l.map (cI .u8)))
   pure (.str bs, [])) := rfl
  rw [h, zyx]; rfl
def zCk (s : Str) (lo hi : Option Int) : Option Str :=
 let h := hi.getD s.length
 let l := lo.getD 0
 if 0 <= h /\ h <= s.length /\ 0 <= l /\ l <= h then some (cut s l.toNat (h.toNat - l.toNat)) else none
def zBq {α : Type} (s : Sl α) (lo hi : Option Int) : Option (Sl α) :=
 let h := hi.getD s.l.length
 let l := lo.getD 0
 if 0 <= h /\ h <= s.l.length /\ 0 <= l /\ l <= h then some ⟨znn s.fl (h.toNat == s.l.length), cut s.l l.toNat (h.toNat - l.toNat)⟩ else none
theorem zQ7 {α β : Type} (f : α -> β) (l : List α) (a b : Nat) : cut (l.map f) a b = (cut l a b).map f := by
 unfold cut; simp only [yV]; split
 · rfl
 · simp [List.map_take, List.map_drop]
theorem zJN {α : Type} {c : α -> List D} {n : Nat} (h : ∀ x, (c x).length = n) (l : List α) : zrp n (l.map c) = true := by
 simp [zrp, h]
def odI (i : Option Int) : Option D := i.map fun n => .int .i64 n
theorem zNz {d top : Nat} {k : IntKind} {n : Int} (h1 : 0 <= n) (h2 : n <= (top : Int)) : bound d top (some (.int k n)) = some n.toNat := by
 show bnd (ok (decide (0 <= n) && decide (n <= (top : Int)))) _ = _
 rw [YH h1, YH h2]; rfl
theorem zwf {d top : Nat} {i : Option Int} (h1 : 0 <= i.getD d) (h2 : i.getD d <= (top : Int)) : bound d top (odI i) = some (i.getD d).toNat := by
 cases i with
 | none => simp [odI, bound]
 | some n => exact zNz h1 h2
theorem zlr {s : Str} {lo hi : Option Int} {r : Str} (h : zCk s lo hi = some r) (P : Program) : zfr P (odI lo) (odI hi) none (.str s) .str = pure (.str r) := by
 unfold zCk at h
 simp only at h
 split at h
 · rename_i hc
   obtain ⟨h1, h2, h3, h4⟩ := hc
   cases h
   have eh : bound s.length s.length (odI hi) = some (hi.getD s.length).toNat := zwf h1 h2
   have el : bound 0 (hi.getD s.length).toNat (odI lo) = some (lo.getD 0).toNat := by
    have := zwf (d := 0) (i := lo) (top := (hi.getD s.length).toNat) (by simpa using h3) (by simp only [Int.ofNat_eq_natCast, Int.natCast_zero]; omega)
    simpa using this
   show (M.lift (bound s.length s.length (odI hi)) >>= fun h => M.lift (bound 0 h (odI lo)) >>= fun l => pure (D.str (cut s l (h - l)))) = _
   rw [eh]
   show (M.lift (bound 0 (hi.getD s.length).toNat (odI lo)) >>= fun l => pure (D.str (cut s l ((hi.getD s.length).toNat - l)))) = _
   rw [el]; rfl
 · cases h
theorem zmx {α : Type} {c : α -> List D} {s : Sl α} {lo hi : Option Int} {r : Sl α} (h : zBq s lo hi = some r) {P : Program} {e : TypeId} {ti : TI} (ht : zkZ P e = some ti) (hl : ∀ x, (c x).length = ti.size) :
 zfr P (odI lo) (odI hi) none (dSl c s) (.slice e) = pure (dSl c r) := by
 unfold zBq at h
 simp only at h
 split at h
 · rename_i hc
   obtain ⟨h1, h2, h3, h4⟩ := hc
   cases h
   have eh : bound (s.l.map c).length (s.l.map c).length (odI hi) = some (hi.getD s.l.length).toNat := by
    rw [yV]; exact zwf h1 h2
   have el : bound 0 (hi.getD s.l.length).toNat (odI lo) = some (lo.getD 0).toNat := by
    have := zwf (d := 0) (i := lo) (top := (hi.getD s.l.length).toNat) (by simpa using h3) (by simp only [Int.ofNat_eq_natCast, Int.natCast_zero]; omega)
    simpa using this
   have hle : decide ((hi.getD s.l.length).toNat <= (s.l.map c).length) = true := YH (by simp; omega)
   show (M.lift (zkZ P e) >>= fun ti => M.lift (bound (s.l.map c).length (s.l.map c).length (odI hi)) >>= fun h => M.guard (decide (h <= (s.l.map c).length)) >>= fun _ => M.lift (bound 0 h (odI lo)) >>= fun l =>
    M.guard (decide (l = 0) || zrp ti.size (s.l.map c)) >>= fun _ => pure (D.sl (znn s.fl (h == (s.l.map c).length)) (cut (s.l.map c) l (h - l)))) = _
   rw [ht, eh]
   show (M.guard (decide ((hi.getD s.l.length).toNat <= (s.l.map c).length)) >>= fun _ => M.lift (bound 0 (hi.getD s.l.length).toNat (odI lo)) >>= fun l =>
    M.guard (decide (l = 0) || zrp ti.size (s.l.map c)) >>= fun _ => pure (D.sl (znn s.fl ((hi.getD s.l.length).toNat == (s.l.map c).length)) (cut (s.l.map c) l ((hi.getD s.l.length).toNat - l)))) = _
   rw [hle, el]
   show (M.guard (decide ((lo.getD 0).toNat = 0) || zrp ti.size (s.l.map c)) >>= fun _ => pure (D.sl (znn s.fl ((hi.getD s.l.length).toNat == (s.l.map c).length)) (cut (s.l.map c) (lo.getD 0).toNat ((hi.getD s.l.length).toNat - (lo.getD 0).toNat)))) = _
   rw [zJN hl, Bool.or_true, zQ7, yV]; rfl
 · cases h
@[go_sem] theorem zRa {α : Type} {l : List α} {n : Nat} (h : l.length = n) : cut l 0 n = l := by subst h; simp [cut]
def Sl.out {α : Type} : List α -> Sl α
 | [] => Sl.nil
 | a :: l => ⟨.any, a :: l⟩
@[go_sem] theorem Sl.out_nil {α : Type} : Sl.out ([] : List α) = Sl.nil := rfl
@[go_sem] theorem Sl.out_ne {α : Type} {l : List α} (h : (l = []) = False) : Sl.out l = ⟨.any, l⟩ := by
  cases l with
  | nil => simp at h
  | cons a l => rfl
@[simp] theorem Sl.out_l {α : Type} (l : List α) : (Sl.out l).l = l := by cases l <;> rfl
@[simp] theorem Sl.of_l {α : Type} (l : List α) : (Sl.of l).l = l := rfl
@[simp] theorem Sl.nil_l {α : Type} : (Sl.nil : Sl α).l = [] := rfl
def zqZ {α : Type} (d : D) (m : Mem) (Ts : List Nat) (sz : Nat) (c : α -> List D) (l : List α) : Prop :=
 (d = .sl .nil [] /\ l = []) ∨ ∃ T, T ∈ Ts /\ ∃ g, d = .own (.loc T 0) g 0 l.length /\ m (.loc T 0) = some (.rows g false true sz (l.map c)) /\ (l = []) = False
def zNT {α : Type} (d : D) (m : Mem) (T sz : Nat) (c : α -> List D) (l : List α) : Prop :=
 ∃ g, d = .own (.loc T 0) g 0 l.length /\ m (.loc T 0) = some (.rows g false true sz (l.map c))
def zA3 {α : Type} (d : D) (m : Mem) (Ts : List Nat) (sz : Nat) (c : α -> List D) (r : Sl α) : Prop :=
 d = dSl c r ∨ ∃ T, T ∈ Ts /\ ∃ l, r = Sl.of l /\ ∃ g, d = .own (.loc T 0) g 0 l.length /\ m (.loc T 0) = some (.rows g false true sz (l.map c))
def ltn (a b : Nat) : Bool := decide (a < b)
theorem zQE {a b : Nat} (h : ltn a b = true) : a < b := YF h
theorem zQF {a b : Nat} (h : ltn a b = false) : ¬ a < b := of_decide_eq_false h
def zA4 (d : D) (m : Mem) (T : Nat) (s : Str) (pos : Nat) : Prop := ∃ g, d = .iter (.loc T 0) g /\ m (.loc T 0) = some (.siter g s pos)
def zNU {α : Type} (e6 : D) (m : Mem) (T sz : Nat) (cells : D -> List D) (Ts : List Nat) (esz : Nat) (c : α -> List D) (l : List α) : Prop :=
 ∃ g cl d, e6 = .ptr (.loc T 0) g 0 0 /\ m (.loc T 0) = some (.rows g false cl sz [cells d]) /\ zqZ d m Ts esz c l
def zJx {α : Type} (e6 : D) (m : Mem) (T sz : Nat) (cells : D -> List D) (Ts : List Nat) (esz : Nat) (c : α -> List D) (r : Sl α) : Prop :=
 ∃ g cl d, e6 = .ptr (.loc T 0) g 0 0 /\ m (.loc T 0) = some (.rows g false cl sz [cells d]) /\ zA3 d m Ts esz c r
def zO6 {α : Type} (l : List α) (g : Nat) : D := open Classical in if l = [] then .sl .nil [] else .own (.loc 0 0) g 0 l.length
def zO7 {α : Type} (g sz : Nat) (c : α -> List D) (l : List α) : List Blk := open Classical in if l = [] then [] else [.rows g false true sz (l.map c)]
@[go_sem] theorem zWx {α : Type} {l new : List α} (h : l.length = new.length) : put l 0 new = new := zL7 h rfl
attribute [go_sem] yk Nat.add_zero yP eq_self room yD List.append_eq_nil_iff List.map_append Sl.of zDg zyx
structure Val where
 kind : Int
 int : Int
 text : Str
def Val.setKind : Val -> Int -> Val
 | .mk _ x1 x2, v => .mk v x1 x2
def Val.setInt : Val -> Int -> Val
 | .mk x0 _ x2, v => .mk x0 v x2
def Val.setText : Val -> Str -> Val
 | .mk x0 x1 _, v => .mk x0 x1 v
def Val.zero : Val := .mk 0 0 []
def zd0 (x : Val) : List D := ([(.int .i64 x.kind)]) ++ ([(.int .i64 x.int)]) ++ ([(.str x.text)])
theorem zcf (x : Val) : zd0 x = ([(.int .i64 x.kind)]) ++ ([(.int .i64 x.int)]) ++ ([(.str x.text)]) := rfl
@[go_sem] theorem Val.setKind_kind (x : Val) (v : Int) : (x.setKind v).kind = v := by cases x; rfl
@[go_sem] theorem Val.setKind_int (x : Val) (v : Int) : (x.setKind v).int = x.int := by cases x; rfl
@[go_sem] theorem Val.setKind_text (x : Val) (v : Int) : (x.setKind v).text = x.text := by cases x; rfl
@[go_sem] theorem Val.setInt_kind (x : Val) (v : Int) : (x.setInt v).kind = x.kind := by cases x; rfl
@[go_sem] theorem Val.setInt_int (x : Val) (v : Int) : (x.setInt v).int = v := by cases x; rfl
@[go_sem] theorem Val.setInt_text (x : Val) (v : Int) : (x.setInt v).text = x.text := by cases x; rfl
@[go_sem] theorem Val.setText_kind (x : Val) (v : Str) : (x.setText v).kind = x.kind := by cases x; rfl
@[go_sem] theorem Val.setText_int (x : Val) (v : Str) : (x.setText v).int = x.int := by cases x; rfl
@[go_sem] theorem Val.setText_text (x : Val) (v : Str) : (x.setText v).text = v := by cases x; rfl
@[go_sem] theorem zzj (x : Val) : (zd0 x).length = 3 := by simp [zcf]
@[go_sem] theorem zyz (x : Val) : zcl (zd0 x) = true := by simp [zcf, zfL, zcl, cell, dSl]
@[go_sem] theorem zqN (x : Val) : zbc (zd0 x) = true := by simp [zcf, zex, zbc, still, dSl]
@[go_sem] theorem zFQ (x : Val) : ztB (zd0 x) = [] := by simp [zcf, zjR, ztB, ids, dSl]
@[go_sem] theorem zFg (ρ : Nm -> Option (Nm × Nat)) (x : Val) : zr7 ρ (zd0 x) = some (zd0 x) := by simp [zcf, zjP, zr7, ren, dSl]
@[go_sem] theorem zRy (n : Nat) (x : Val) : zfY (zjj n) (zd0 x) = pure (zd0 x, []) := zin (zqN x)
@[go_sem] theorem Val.zero_kind : Val.zero.kind = 0 := rfl
@[go_sem] theorem Val.zero_int : Val.zero.int = 0 := rfl
@[go_sem] theorem Val.zero_text : Val.zero.text = [] := rfl
@[go_sem] theorem zT1 (P : Program) (x y : Val) (k : List (TypeId × Nat)) : zjT P k (zd0 x) (zd0 y) = zjT P k [(.int .i64 x.kind), (.int .i64 x.int), (.str x.text)] [(.int .i64 y.kind), (.int .i64 y.int), (.str y.text)] := rfl
@[go_sem] theorem zP2 (x : Val) : cut (zd0 x) 0 1 = [(.int .i64 x.kind)] := by
  simp [cut, zcf]
@[go_sem] theorem zPG (x : Val) (v : Int) : put (zd0 x) 0 ([(.int .i64 v)]) = zd0 (x.setKind v) := by
  simp [put, zcf, Val.setKind_kind, Val.setKind_int, Val.setKind_text]
@[go_sem] theorem zRb (x : Val) : cut (zd0 x) 1 1 = [(.int .i64 x.int)] := by
  simp [cut, zcf]
@[go_sem] theorem zQt (x : Val) (v : Int) : put (zd0 x) 1 ([(.int .i64 v)]) = zd0 (x.setInt v) := by
  simp [put, zcf, Val.setInt_kind, Val.setInt_int, Val.setInt_text]
@[go_sem] theorem zP1 (x : Val) : cut (zd0 x) 2 1 = [(.str x.text)] := by
  simp [cut, zcf]
@[go_sem] theorem zPF (x : Val) (v : Str) : put (zd0 x) 2 ([(.str v)]) = zd0 (x.setText v) := by
  simp [put, zcf, Val.setText_kind, Val.setText_int, Val.setText_text]
structure zbZ where
 table : Int
 seq : Int
def zbZ.setTable : zbZ -> Int -> zbZ
 | .mk _ x1, v => .mk v x1
def zbZ.setSeq : zbZ -> Int -> zbZ
 | .mk x0 _, v => .mk x0 v
def zbZ.zero : zbZ := .mk 0 0
def zev (x : zbZ) : List D := ([(.int .i64 x.table)]) ++ ([(.int .i64 x.seq)])
theorem zbP (x : zbZ) : zev x = ([(.int .i64 x.table)]) ++ ([(.int .i64 x.seq)]) := rfl
@[go_sem] theorem zbZ.setTable_table (x : zbZ) (v : Int) : (x.setTable v).table = v := by cases x; rfl
@[go_sem] theorem zbZ.setTable_seq (x : zbZ) (v : Int) : (x.setTable v).seq = x.seq := by cases x; rfl
@[go_sem] theorem zbZ.setSeq_table (x : zbZ) (v : Int) : (x.setSeq v).table = x.table := by cases x; rfl
@[go_sem] theorem zbZ.setSeq_seq (x : zbZ) (v : Int) : (x.setSeq v).seq = v := by cases x; rfl
@[go_sem] theorem zCx (x : zbZ) : (zev x).length = 2 := by simp [zbP]
@[go_sem] theorem zBN (x : zbZ) : zcl (zev x) = true := by simp [zbP, zfL, zcl, cell, dSl]
@[go_sem] theorem zsC (x : zbZ) : zbc (zev x) = true := by simp [zbP, zex, zbc, still, dSl]
@[go_sem] theorem zHO (x : zbZ) : ztB (zev x) = [] := by simp [zbP, zjR, ztB, ids, dSl]
@[go_sem] theorem zHp (ρ : Nm -> Option (Nm × Nat)) (x : zbZ) : zr7 ρ (zev x) = some (zev x) := by simp [zbP, zjP, zr7, ren, dSl]
@[go_sem] theorem zPE (n : Nat) (x : zbZ) : zfY (zjj n) (zev x) = pure (zev x, []) := zin (zsC x)
@[go_sem] theorem zbZ.zero_table : zbZ.zero.table = 0 := rfl
@[go_sem] theorem zbZ.zero_seq : zbZ.zero.seq = 0 := rfl
@[go_sem] theorem zQY (P : Program) (x y : zbZ) (k : List (TypeId × Nat)) : zjT P k (zev x) (zev y) = zjT P k [(.int .i64 x.table), (.int .i64 x.seq)] [(.int .i64 y.table), (.int .i64 y.seq)] := rfl
@[go_sem] theorem zNl (x : zbZ) : cut (zev x) 0 1 = [(.int .i64 x.table)] := by
  simp [cut, zbP]
@[go_sem] theorem zMa (x : zbZ) (v : Int) : put (zev x) 0 ([(.int .i64 v)]) = zev (x.setTable v) := by
  simp [put, zbP, zbZ.setTable_table, zbZ.setTable_seq]
@[go_sem] theorem zPe (x : zbZ) : cut (zev x) 1 1 = [(.int .i64 x.seq)] := by
  simp [cut, zbP]
@[go_sem] theorem zOI (x : zbZ) (v : Int) : put (zev x) 1 ([(.int .i64 v)]) = zev (x.setSeq v) := by
  simp [put, zbP, zbZ.setSeq_table, zbZ.setSeq_seq]
mutual
inductive zam where
 | mk (coeff : Int) (factors : (Sl zaj))
inductive zaj where
 | mk (atom : zas) (exp : Int)
inductive zas where
 | mk (kind : Int) (row : zbZ) (args : (Sl (Sl zam))) (func : Int) (items : (Sl zae)) (op : Int) (bound : Val)
inductive zae where
 | mk (value : Val) (ann : (Sl zam))
end
def zam.coeff : zam -> Int
 | .mk x _ => x
def zam.factors : zam -> (Sl zaj)
 | .mk _ x => x
def zaj.atom : zaj -> zas
 | .mk x _ => x
def zaj.exp : zaj -> Int
 | .mk _ x => x
def zas.kind : zas -> Int
 | .mk x _ _ _ _ _ _ => x
def zas.row : zas -> zbZ
 | .mk _ x _ _ _ _ _ => x
def zas.args : zas -> (Sl (Sl zam))
 | .mk _ _ x _ _ _ _ => x
def zas.func : zas -> Int
 | .mk _ _ _ x _ _ _ => x
def zas.items : zas -> (Sl zae)
 | .mk _ _ _ _ x _ _ => x
def zas.op : zas -> Int
 | .mk _ _ _ _ _ x _ => x
def zas.bound : zas -> Val
 | .mk _ _ _ _ _ _ x => x
def zae.value : zae -> Val
 | .mk x _ => x
def zae.ann : zae -> (Sl zam)
 | .mk _ x => x
def zam.setCoeff : zam -> Int -> zam
 | .mk _ x1, v => .mk v x1
def zam.setFactors : zam -> (Sl zaj) -> zam
 | .mk x0 _, v => .mk x0 v
def zaj.setAtom : zaj -> zas -> zaj
 | .mk _ x1, v => .mk v x1
def zaj.setExp : zaj -> Int -> zaj
 | .mk x0 _, v => .mk x0 v
def zas.setKind : zas -> Int -> zas
 | .mk _ x1 x2 x3 x4 x5 x6, v => .mk v x1 x2 x3 x4 x5 x6
def zas.setRow : zas -> zbZ -> zas
 | .mk x0 _ x2 x3 x4 x5 x6, v => .mk x0 v x2 x3 x4 x5 x6
def zas.setArgs : zas -> (Sl (Sl zam)) -> zas
 | .mk x0 x1 _ x3 x4 x5 x6, v => .mk x0 x1 v x3 x4 x5 x6
def zas.setFunc : zas -> Int -> zas
 | .mk x0 x1 x2 _ x4 x5 x6, v => .mk x0 x1 x2 v x4 x5 x6
def zas.setItems : zas -> (Sl zae) -> zas
 | .mk x0 x1 x2 x3 _ x5 x6, v => .mk x0 x1 x2 x3 v x5 x6
def zas.setOp : zas -> Int -> zas
 | .mk x0 x1 x2 x3 x4 _ x6, v => .mk x0 x1 x2 x3 x4 v x6
def zas.setBound : zas -> Val -> zas
 | .mk x0 x1 x2 x3 x4 x5 _, v => .mk x0 x1 x2 x3 x4 x5 v
def zae.setValue : zae -> Val -> zae
 | .mk _ x1, v => .mk v x1
def zae.setAnn : zae -> (Sl zam) -> zae
 | .mk x0 _, v => .mk x0 v
def zam.zero : zam := .mk 0 Sl.nil
def zas.zero : zas := .mk 0 zbZ.zero Sl.nil 0 Sl.nil 0 Val.zero
def zaj.zero : zaj := .mk zas.zero 0
def zae.zero : zae := .mk Val.zero Sl.nil
mutual
def zaq : zam -> List D
 | .mk x0 x1 => ([(.int .i64 x0)]) ++ ([zxA x1])
def zaz : zaj -> List D
 | .mk x0 x1 => (zbQ x0) ++ ([(.int .i64 x1)])
def zbQ : zas -> List D
 | .mk x0 x1 x2 x3 x4 x5 x6 => ([(.int .i64 x0)]) ++ (zev x1) ++ ([zxz x2]) ++ ([(.int .i64 x3)]) ++ ([zsy x4]) ++ ([(.int .i64 x5)]) ++ (zd0 x6)
def zao : zae -> List D
 | .mk x0 x1 => (zd0 x0) ++ ([zv9 x1])
def zxA : Sl zaj -> D
 | .mk f l => .sl f (zzt l)
def zzt : List zaj -> List (List D)
 | [] => []
 | x :: r => (zaz x) :: zzt r
def zxz : Sl (Sl zam) -> D
 | .mk f l => .sl f (zzs l)
def zzs : List (Sl zam) -> List (List D)
 | [] => []
 | x :: r => ([zv9 x]) :: zzs r
def zv9 : Sl zam -> D
 | .mk f l => .sl f (zJp l)
def zJp : List zam -> List (List D)
 | [] => []
 | x :: r => (zaq x) :: zJp r
def zsy : Sl zae -> D
 | .mk f l => .sl f (ztm l)
def ztm : List zae -> List (List D)
 | [] => []
 | x :: r => (zao x) :: ztm r
end
theorem zIb (l : List zaj) : zzt l = l.map zaz := by
 induction l with
 | nil => rfl
 | cons x r ih => rw [zzt, ih]; rfl
theorem zmG (s : Sl zaj) : zxA s = dSl zaz s := by cases s; simp only [zxA, dSl, zIb]
theorem zGp (l : List zam) : zJp l = l.map zaq := by
 induction l with
 | nil => rfl
 | cons x r ih => rw [zJp, ih]; rfl
theorem zqK (s : Sl zam) : zv9 s = dSl zaq s := by cases s; simp only [zv9, dSl, zGp]
theorem zD9 (l : List zae) : ztm l = l.map zao := by
 induction l with
 | nil => rfl
 | cons x r ih => rw [ztm, ih]; rfl
theorem zko (s : Sl zae) : zsy s = dSl zao s := by cases s; simp only [zsy, dSl, zD9]
theorem zIa (l : List (Sl zam)) : zzs l = l.map (cSl zaq) := by
 induction l with
 | nil => rfl
 | cons x r ih => rw [zzs, ih]; cases x; simp only [yR, cSl, dSl, zv9, zGp]
theorem zmF (s : Sl (Sl zam)) : zxz s = dSl (cSl zaq) s := by cases s; simp only [zxz, dSl, zIa]
theorem zkp (x : zam) : zaq x = ([(.int .i64 x.coeff)]) ++ ([(dSl zaz x.factors)]) := by
 cases x; simp only [zaq, zmG, zmF, zqK, zko, zam.coeff, zam.factors]
theorem zeb (x : zaj) : zaz x = (zbQ x.atom) ++ ([(.int .i64 x.exp)]) := by
 cases x; simp only [zaz, zmG, zmF, zqK, zko, zaj.atom, zaj.exp]
theorem zcC (x : zas) : zbQ x = ([(.int .i64 x.kind)]) ++ (zev x.row) ++ ([(dSl (cSl zaq) x.args)]) ++ ([(.int .i64 x.func)]) ++ ([(dSl zao x.items)]) ++ ([(.int .i64 x.op)]) ++ (zd0 x.bound) := by
 cases x; simp only [zbQ, zmG, zmF, zqK, zko, zas.kind, zas.row, zas.args, zas.func, zas.items, zas.op, zas.bound]
theorem zcJ (x : zae) : zao x = (zd0 x.value) ++ ([(dSl zaq x.ann)]) := by
 cases x; simp only [zao, zmG, zmF, zqK, zko, zae.value, zae.ann]
@[go_sem] theorem zam.setCoeff_coeff (x : zam) (v : Int) : (x.setCoeff v).coeff = v := by cases x; rfl
@[go_sem] theorem zam.setCoeff_factors (x : zam) (v : Int) : (x.setCoeff v).factors = x.factors := by cases x; rfl
@[go_sem] theorem zam.setFactors_coeff (x : zam) (v : (Sl zaj)) : (x.setFactors v).coeff = x.coeff := by cases x; rfl
@[go_sem] theorem zam.setFactors_factors (x : zam) (v : (Sl zaj)) : (x.setFactors v).factors = v := by cases x; rfl
@[go_sem] theorem zMt (x : zam) : (zaq x).length = 2 := by simp [zkp]
@[go_sem] theorem zPu (x : zam) : zcl (zaq x) = true := by simp [zkp, zfL, zcl, cell, dSl]
@[go_sem] theorem zBL (x : zam) : zbc (zaq x) = true := by simp [zkp, zex, zbc, still, dSl]
@[go_sem] theorem zRC (x : zam) : ztB (zaq x) = [] := by simp [zkp, zjR, ztB, ids, dSl]
@[go_sem] theorem zRv (ρ : Nm -> Option (Nm × Nat)) (x : zam) : zr7 ρ (zaq x) = some (zaq x) := by simp [zkp, zjP, zr7, ren, dSl]
@[go_sem] theorem zQp (n : Nat) (x : zam) : zfY (zjj n) (zaq x) = pure (zaq x, []) := zin (zBL x)
@[go_sem] theorem zam.zero_factors : zam.zero.factors = Sl.nil := rfl
@[go_sem] theorem zN3 (x : zam) : cut (zaq x) 0 1 = [(.int .i64 x.coeff)] := by
  simp [cut, zkp]
@[go_sem] theorem zNZ (x : zam) (v : Int) : put (zaq x) 0 ([(.int .i64 v)]) = zaq (x.setCoeff v) := by
  simp [put, zkp, zam.setCoeff_coeff, zam.setCoeff_factors]
@[go_sem] theorem zLk (x : zam) : cut (zaq x) 1 1 = [(dSl zaz x.factors)] := by
  simp [cut, zkp]
@[go_sem] theorem zas.setKind_kind (x : zas) (v : Int) : (x.setKind v).kind = v := by cases x; rfl
@[go_sem] theorem zas.setKind_row (x : zas) (v : Int) : (x.setKind v).row = x.row := by cases x; rfl
@[go_sem] theorem zas.setKind_args (x : zas) (v : Int) : (x.setKind v).args = x.args := by cases x; rfl
@[go_sem] theorem zas.setKind_func (x : zas) (v : Int) : (x.setKind v).func = x.func := by cases x; rfl
@[go_sem] theorem zas.setKind_items (x : zas) (v : Int) : (x.setKind v).items = x.items := by cases x; rfl
@[go_sem] theorem zas.setKind_op (x : zas) (v : Int) : (x.setKind v).op = x.op := by cases x; rfl
@[go_sem] theorem zas.setKind_bound (x : zas) (v : Int) : (x.setKind v).bound = x.bound := by cases x; rfl
@[go_sem] theorem zas.setRow_kind (x : zas) (v : zbZ) : (x.setRow v).kind = x.kind := by cases x; rfl
@[go_sem] theorem zas.setRow_row (x : zas) (v : zbZ) : (x.setRow v).row = v := by cases x; rfl
@[go_sem] theorem zas.setRow_args (x : zas) (v : zbZ) : (x.setRow v).args = x.args := by cases x; rfl
@[go_sem] theorem zas.setRow_func (x : zas) (v : zbZ) : (x.setRow v).func = x.func := by cases x; rfl
@[go_sem] theorem zas.setRow_items (x : zas) (v : zbZ) : (x.setRow v).items = x.items := by cases x; rfl
@[go_sem] theorem zas.setRow_op (x : zas) (v : zbZ) : (x.setRow v).op = x.op := by cases x; rfl
@[go_sem] theorem zas.setRow_bound (x : zas) (v : zbZ) : (x.setRow v).bound = x.bound := by cases x; rfl
@[go_sem] theorem zas.setArgs_kind (x : zas) (v : (Sl (Sl zam))) : (x.setArgs v).kind = x.kind := by cases x; rfl
@[go_sem] theorem zas.setArgs_row (x : zas) (v : (Sl (Sl zam))) : (x.setArgs v).row = x.row := by cases x; rfl
@[go_sem] theorem zas.setArgs_args (x : zas) (v : (Sl (Sl zam))) : (x.setArgs v).args = v := by cases x; rfl
@[go_sem] theorem zas.setArgs_func (x : zas) (v : (Sl (Sl zam))) : (x.setArgs v).func = x.func := by cases x; rfl
@[go_sem] theorem zas.setArgs_items (x : zas) (v : (Sl (Sl zam))) : (x.setArgs v).items = x.items := by cases x; rfl
@[go_sem] theorem zas.setArgs_op (x : zas) (v : (Sl (Sl zam))) : (x.setArgs v).op = x.op := by cases x; rfl
@[go_sem] theorem zas.setArgs_bound (x : zas) (v : (Sl (Sl zam))) : (x.setArgs v).bound = x.bound := by cases x; rfl
@[go_sem] theorem zas.setFunc_kind (x : zas) (v : Int) : (x.setFunc v).kind = x.kind := by cases x; rfl
@[go_sem] theorem zas.setFunc_row (x : zas) (v : Int) : (x.setFunc v).row = x.row := by cases x; rfl
@[go_sem] theorem zas.setFunc_args (x : zas) (v : Int) : (x.setFunc v).args = x.args := by cases x; rfl
@[go_sem] theorem zas.setFunc_func (x : zas) (v : Int) : (x.setFunc v).func = v := by cases x; rfl
@[go_sem] theorem zas.setFunc_items (x : zas) (v : Int) : (x.setFunc v).items = x.items := by cases x; rfl
@[go_sem] theorem zas.setFunc_op (x : zas) (v : Int) : (x.setFunc v).op = x.op := by cases x; rfl
@[go_sem] theorem zas.setFunc_bound (x : zas) (v : Int) : (x.setFunc v).bound = x.bound := by cases x; rfl
@[go_sem] theorem zas.setItems_kind (x : zas) (v : (Sl zae)) : (x.setItems v).kind = x.kind := by cases x; rfl
@[go_sem] theorem zas.setItems_row (x : zas) (v : (Sl zae)) : (x.setItems v).row = x.row := by cases x; rfl
@[go_sem] theorem zas.setItems_args (x : zas) (v : (Sl zae)) : (x.setItems v).args = x.args := by cases x; rfl
@[go_sem] theorem zas.setItems_func (x : zas) (v : (Sl zae)) : (x.setItems v).func = x.func := by cases x; rfl
@[go_sem] theorem zas.setItems_items (x : zas) (v : (Sl zae)) : (x.setItems v).items = v := by cases x; rfl
@[go_sem] theorem zas.setItems_op (x : zas) (v : (Sl zae)) : (x.setItems v).op = x.op := by cases x; rfl
@[go_sem] theorem zas.setItems_bound (x : zas) (v : (Sl zae)) : (x.setItems v).bound = x.bound := by cases x; rfl
@[go_sem] theorem zas.setOp_kind (x : zas) (v : Int) : (x.setOp v).kind = x.kind := by cases x; rfl
@[go_sem] theorem zas.setOp_row (x : zas) (v : Int) : (x.setOp v).row = x.row := by cases x; rfl
@[go_sem] theorem zas.setOp_args (x : zas) (v : Int) : (x.setOp v).args = x.args := by cases x; rfl
@[go_sem] theorem zas.setOp_func (x : zas) (v : Int) : (x.setOp v).func = x.func := by cases x; rfl
@[go_sem] theorem zas.setOp_items (x : zas) (v : Int) : (x.setOp v).items = x.items := by cases x; rfl
@[go_sem] theorem zas.setOp_op (x : zas) (v : Int) : (x.setOp v).op = v := by cases x; rfl
@[go_sem] theorem zas.setBound_kind (x : zas) (v : Val) : (x.setBound v).kind = x.kind := by cases x; rfl
@[go_sem] theorem zas.setBound_row (x : zas) (v : Val) : (x.setBound v).row = x.row := by cases x; rfl
@[go_sem] theorem zas.setBound_args (x : zas) (v : Val) : (x.setBound v).args = x.args := by cases x; rfl
@[go_sem] theorem zas.setBound_func (x : zas) (v : Val) : (x.setBound v).func = x.func := by cases x; rfl
@[go_sem] theorem zas.setBound_items (x : zas) (v : Val) : (x.setBound v).items = x.items := by cases x; rfl
@[go_sem] theorem zas.setBound_op (x : zas) (v : Val) : (x.setBound v).op = x.op := by cases x; rfl
@[go_sem] theorem zas.setBound_bound (x : zas) (v : Val) : (x.setBound v).bound = v := by cases x; rfl
@[go_sem] theorem zFL (x : zas) : (zbQ x).length = 10 := by simp [zcC, zCx, zzj]
@[go_sem] theorem zEd (x : zas) : zcl (zbQ x) = true := by simp [zcC, zfL, zcl, cell, dSl, zBN, zyz]
@[go_sem] theorem zum (x : zas) : zbc (zbQ x) = true := by simp [zcC, zex, zbc, still, dSl, zsC, zqN]
@[go_sem] theorem zKo (x : zas) : ztB (zbQ x) = [] := by simp [zcC, zjR, ztB, ids, dSl, zHO, zFQ]
@[go_sem] theorem zJS (ρ : Nm -> Option (Nm × Nat)) (x : zas) : zr7 ρ (zbQ x) = some (zbQ x) := by simp [zcC, zjP, zr7, ren, dSl, zHp, zFg]
@[go_sem] theorem zQr (n : Nat) (x : zas) : zfY (zjj n) (zbQ x) = pure (zbQ x, []) := zin (zum x)
@[go_sem] theorem zas.zero_kind : zas.zero.kind = 0 := rfl
@[go_sem] theorem zas.zero_row : zas.zero.row = zbZ.zero := rfl
@[go_sem] theorem zas.zero_args : zas.zero.args = Sl.nil := rfl
@[go_sem] theorem zas.zero_func : zas.zero.func = 0 := rfl
@[go_sem] theorem zas.zero_items : zas.zero.items = Sl.nil := rfl
@[go_sem] theorem zas.zero_op : zas.zero.op = 0 := rfl
@[go_sem] theorem zas.zero_bound : zas.zero.bound = Val.zero := rfl
@[go_sem] theorem zPf (x : zas) : cut (zbQ x) 0 1 = [(.int .i64 x.kind)] := by
  simp [cut, zcC, zbP, zcf]
@[go_sem] theorem zOK (x : zas) (v : Int) : put (zbQ x) 0 ([(.int .i64 v)]) = zbQ (x.setKind v) := by
  simp [put, zcC, zbP, zcf, zas.setKind_kind, zas.setKind_row, zas.setKind_args, zas.setKind_func, zas.setKind_items, zas.setKind_op, zas.setKind_bound]
@[go_sem] theorem zP4 (x : zas) : cut (zbQ x) 1 2 = zev x.row := by
  simp [cut, zcC, zbP, zcf]
@[go_sem] theorem zPI (x : zas) (v : zbZ) : put (zbQ x) 1 (zev v) = zbQ (x.setRow v) := by
  simp [put, zcC, zbP, zcf, zas.setRow_kind, zas.setRow_row, zas.setRow_args, zas.setRow_func, zas.setRow_items, zas.setRow_op, zas.setRow_bound]
@[go_sem] theorem zJl (x : zas) : cut (zbQ x) 1 1 = [(.int .i64 x.row.table)] := by
  simp [cut, zcC, zbP, zcf]
@[go_sem] theorem zLl (x : zas) : cut (zbQ x) 2 1 = [(.int .i64 x.row.seq)] := by
  simp [cut, zcC, zbP, zcf]
@[go_sem] theorem zPh (x : zas) : cut (zbQ x) 3 1 = [(dSl (cSl zaq) x.args)] := by
  simp [cut, zcC, zbP, zcf]
@[go_sem] theorem zPg (x : zas) : cut (zbQ x) 4 1 = [(.int .i64 x.func)] := by
  simp [cut, zcC, zbP, zcf]
@[go_sem] theorem zOL (x : zas) (v : Int) : put (zbQ x) 4 ([(.int .i64 v)]) = zbQ (x.setFunc v) := by
  simp [put, zcC, zbP, zcf, zas.setFunc_kind, zas.setFunc_row, zas.setFunc_args, zas.setFunc_func, zas.setFunc_items, zas.setFunc_op, zas.setFunc_bound]
@[go_sem] theorem zN5 (x : zas) : cut (zbQ x) 5 1 = [(dSl zao x.items)] := by
  simp [cut, zcC, zbP, zcf]
@[go_sem] theorem zRc (x : zas) : cut (zbQ x) 6 1 = [(.int .i64 x.op)] := by
  simp [cut, zcC, zbP, zcf]
@[go_sem] theorem zN6 (x : zas) : cut (zbQ x) 7 3 = zd0 x.bound := by
  simp [cut, zcC, zbP, zcf]
@[go_sem] theorem zH5 (x : zas) : cut (zbQ x) 9 1 = [(.str x.bound.text)] := by
  simp [cut, zcC, zbP, zcf]
@[go_sem] theorem zOJ (x : zas) (b : Nm) (g o l : Nat) : put (zbQ x) 3 [.own b g o l] = [(.int .i64 x.kind), (.int .i64 x.row.table), (.int .i64 x.row.seq), .own b g o l, (.int .i64 x.func), (dSl zao x.items), (.int .i64 x.op), (.int .i64 x.bound.kind), (.int .i64 x.bound.int), (.str x.bound.text)] := by
  simp [put, zcC, zbP, zcf]
@[go_sem] theorem zaj.setAtom_atom (x : zaj) (v : zas) : (x.setAtom v).atom = v := by cases x; rfl
@[go_sem] theorem zaj.setAtom_exp (x : zaj) (v : zas) : (x.setAtom v).exp = x.exp := by cases x; rfl
@[go_sem] theorem zaj.setExp_atom (x : zaj) (v : Int) : (x.setExp v).atom = x.atom := by cases x; rfl
@[go_sem] theorem zaj.setExp_exp (x : zaj) (v : Int) : (x.setExp v).exp = v := by cases x; rfl
@[go_sem] theorem zHI (x : zaj) : (zaz x).length = 11 := by simp [zeb, zFL]
@[go_sem] theorem zNM (x : zaj) : zcl (zaz x) = true := by simp [zeb, zfL, zcl, cell, dSl, zEd]
@[go_sem] theorem zyR (x : zaj) : zbc (zaz x) = true := by simp [zeb, zex, zbc, still, dSl, zum]
@[go_sem] theorem zPS (x : zaj) : ztB (zaz x) = [] := by simp [zeb, zjR, ztB, ids, dSl, zKo]
@[go_sem] theorem zPD (ρ : Nm -> Option (Nm × Nat)) (x : zaj) : zr7 ρ (zaz x) = some (zaz x) := by simp [zeb, zjP, zr7, ren, dSl, zJS]
@[go_sem] theorem zOF (n : Nat) (x : zaj) : zfY (zjj n) (zaz x) = pure (zaz x, []) := zin (zyR x)
@[go_sem] theorem zaj.zero_atom : zaj.zero.atom = zas.zero := rfl
@[go_sem] theorem zaj.zero_exp : zaj.zero.exp = 0 := rfl
@[go_sem] theorem zNm (x : zaj) : cut (zaz x) 0 10 = zbQ x.atom := by
  simp [cut, zeb, zcC, zbP, zcf]
@[go_sem] theorem zMb (x : zaj) (v : zas) : put (zaz x) 0 (zbQ v) = zaz (x.setAtom v) := by
  simp [put, zeb, zcC, zbP, zcf, zaj.setAtom_atom, zaj.setAtom_exp]
@[go_sem] theorem zGW (x : zaj) : cut (zaz x) 0 1 = [(.int .i64 x.atom.kind)] := by
  simp [cut, zeb, zcC, zbP, zcf]
@[go_sem] theorem zGX (x : zaj) : cut (zaz x) 3 1 = [(dSl (cSl zaq) x.atom.args)] := by
  simp [cut, zeb, zcC, zbP, zcf]
@[go_sem] theorem zGf (x : zaj) : cut (zaz x) 5 1 = [(dSl zao x.atom.items)] := by
  simp [cut, zeb, zcC, zbP, zcf]
@[go_sem] theorem zN4 (x : zaj) : cut (zaz x) 10 1 = [(.int .i64 x.exp)] := by
  simp [cut, zeb, zcC, zbP, zcf]
@[go_sem] theorem zN0 (x : zaj) (v : Int) : put (zaz x) 10 ([(.int .i64 v)]) = zaz (x.setExp v) := by
  simp [put, zeb, zcC, zbP, zcf, zaj.setExp_atom, zaj.setExp_exp]
@[go_sem] theorem zae.setValue_value (x : zae) (v : Val) : (x.setValue v).value = v := by cases x; rfl
@[go_sem] theorem zae.setValue_ann (x : zae) (v : Val) : (x.setValue v).ann = x.ann := by cases x; rfl
@[go_sem] theorem zae.setAnn_value (x : zae) (v : (Sl zam)) : (x.setAnn v).value = x.value := by cases x; rfl
@[go_sem] theorem zae.setAnn_ann (x : zae) (v : (Sl zam)) : (x.setAnn v).ann = v := by cases x; rfl
@[go_sem] theorem zqr (x : zae) : (zao x).length = 4 := by simp [zcJ, zzj]
@[go_sem] theorem zK4 (x : zae) : zcl (zao x) = true := by simp [zcJ, zfL, zcl, cell, dSl, zyz]
@[go_sem] theorem zwg (x : zae) : zbc (zao x) = true := by simp [zcJ, zex, zbc, still, dSl, zqN]
@[go_sem] theorem zN1 (x : zae) : ztB (zao x) = [] := by simp [zcJ, zjR, ztB, ids, dSl, zFQ]
@[go_sem] theorem zNY (ρ : Nm -> Option (Nm × Nat)) (x : zae) : zr7 ρ (zao x) = some (zao x) := by simp [zcJ, zjP, zr7, ren, dSl, zFg]
@[go_sem] theorem zL1 (n : Nat) (x : zae) : zfY (zjj n) (zao x) = pure (zao x, []) := zin (zwg x)
@[go_sem] theorem zJk (x : zae) : cut (zao x) 0 3 = zd0 x.value := by
  simp [cut, zcJ, zcf]
@[go_sem] theorem zIS (x : zae) (v : Val) : put (zao x) 0 (zd0 v) = zao (x.setValue v) := by
  simp [put, zcJ, zcf, zae.setValue_value, zae.setValue_ann]
@[go_sem] theorem zD5 (x : zae) : cut (zao x) 0 1 = [(.int .i64 x.value.kind)] := by
  simp [cut, zcJ, zcf]
@[go_sem] theorem zEL (x : zae) : cut (zao x) 1 1 = [(.int .i64 x.value.int)] := by
  simp [cut, zcJ, zcf]
@[go_sem] theorem zD4 (x : zae) : cut (zao x) 2 1 = [(.str x.value.text)] := by
  simp [cut, zcJ, zcf]
@[go_sem] theorem zLj (x : zae) : cut (zao x) 3 1 = [(dSl zaq x.ann)] := by
  simp [cut, zcJ, zcf]
@[go_sem] theorem zLh (x : zae) (v : (Sl zam)) : put (zao x) 3 ([(dSl zaq v)]) = zao (x.setAnn v) := by
  simp [put, zcJ, zcf, zae.setAnn_value, zae.setAnn_ann]
structure zfV where
 values : (Sl Val)
 ann : (Sl zam)
def zfV.setValues : zfV -> (Sl Val) -> zfV
 | .mk _ x1, v => .mk v x1
def zfV.setAnn : zfV -> (Sl zam) -> zfV
 | .mk x0 _, v => .mk x0 v
def zfV.zero : zfV := .mk Sl.nil Sl.nil
def zhd (x : zfV) : List D := ([(dSl zd0 x.values)]) ++ ([(dSl zaq x.ann)])
theorem zkq (x : zfV) : zhd x = ([(dSl zd0 x.values)]) ++ ([(dSl zaq x.ann)]) := rfl
@[go_sem] theorem zfV.setValues_values (x : zfV) (v : (Sl Val)) : (x.setValues v).values = v := by cases x; rfl
@[go_sem] theorem zfV.setValues_ann (x : zfV) (v : (Sl Val)) : (x.setValues v).ann = x.ann := by cases x; rfl
@[go_sem] theorem zfV.setAnn_values (x : zfV) (v : (Sl zam)) : (x.setAnn v).values = x.values := by cases x; rfl
@[go_sem] theorem zfV.setAnn_ann (x : zfV) (v : (Sl zam)) : (x.setAnn v).ann = v := by cases x; rfl
@[go_sem] theorem zTr (x : zfV) : (zhd x).length = 2 := by simp [zkq]
@[go_sem] theorem zPv (x : zfV) : zcl (zhd x) = true := by simp [zkq, zfL, zcl, cell, dSl]
@[go_sem] theorem zBM (x : zfV) : zbc (zhd x) = true := by simp [zkq, zex, zbc, still, dSl]
@[go_sem] theorem zRD (x : zfV) : ztB (zhd x) = [] := by simp [zkq, zjR, ztB, ids, dSl]
@[go_sem] theorem zRw (ρ : Nm -> Option (Nm × Nat)) (x : zfV) : zr7 ρ (zhd x) = some (zhd x) := by simp [zkq, zjP, zr7, ren, dSl]
@[go_sem] theorem zQq (n : Nat) (x : zfV) : zfY (zjj n) (zhd x) = pure (zhd x, []) := zin (zBM x)
@[go_sem] theorem zNn (x : zfV) : cut (zhd x) 0 1 = [(dSl zd0 x.values)] := by
  simp [cut, zkq]
@[go_sem] theorem zMc (x : zfV) (v : (Sl Val)) : put (zhd x) 0 ([(dSl zd0 v)]) = zhd (x.setValues v) := by
  simp [put, zkq, zfV.setValues_values, zfV.setValues_ann]
@[go_sem] theorem zP3 (x : zfV) : cut (zhd x) 1 1 = [(dSl zaq x.ann)] := by
  simp [cut, zkq]
@[go_sem] theorem zPH (x : zfV) (v : (Sl zam)) : put (zhd x) 1 ([(dSl zaq v)]) = zhd (x.setAnn v) := by
  simp [put, zkq, zfV.setAnn_values, zfV.setAnn_ann]
structure zwQ where
 name : Str
 type : Int
def zwQ.zero : zwQ := .mk [] 0
def zsA (x : zwQ) : List D := ([(.str x.name)]) ++ ([(.int .i64 x.type)])
theorem ztn (x : zwQ) : zsA x = ([(.str x.name)]) ++ ([(.int .i64 x.type)]) := rfl
@[go_sem] theorem zQG (x : zwQ) : (zsA x).length = 2 := by simp [ztn]
@[go_sem] theorem zNo (x : zwQ) : cut (zsA x) 0 1 = [(.str x.name)] := by
  simp [cut, ztn]
structure za7 where
 columns : (Sl zwQ)
 rows : (Sl zfV)
def za7.setRows : za7 -> (Sl zfV) -> za7
 | .mk x0 _, v => .mk x0 v
def za7.zero : za7 := .mk Sl.nil Sl.nil
def zdt (x : za7) : List D := ([(dSl zsA x.columns)]) ++ ([(dSl zhd x.rows)])
theorem zhp (x : za7) : zdt x = ([(dSl zsA x.columns)]) ++ ([(dSl zhd x.rows)]) := rfl
@[go_sem] theorem za7.setRows_columns (x : za7) (v : (Sl zfV)) : (x.setRows v).columns = x.columns := by cases x; rfl
@[go_sem] theorem za7.setRows_rows (x : za7) (v : (Sl zfV)) : (x.setRows v).rows = v := by cases x; rfl
@[go_sem] theorem zOS (x : za7) : (zdt x).length = 2 := by simp [zhp]
@[go_sem] theorem zK5 (x : za7) : zcl (zdt x) = true := by simp [zhp, zfL, zcl, cell, dSl]
@[go_sem] theorem zwh (x : za7) : zbc (zdt x) = true := by simp [zhp, zex, zbc, still, dSl]
@[go_sem] theorem zL2 (n : Nat) (x : za7) : zfY (zjj n) (zdt x) = pure (zdt x, []) := zin (zwh x)
@[go_sem] theorem zGV (x : za7) : cut (zdt x) 0 1 = [(dSl zsA x.columns)] := by
  simp [cut, zhp]
@[go_sem] theorem zKN (x : za7) : cut (zdt x) 1 1 = [(dSl zhd x.rows)] := by
  simp [cut, zhp]
@[go_sem] theorem zJV (x : za7) (v : (Sl zfV)) : put (zdt x) 1 ([(dSl zhd v)]) = zdt (x.setRows v) := by
  simp [put, zhp, za7.setRows_columns, za7.setRows_rows]
structure zku where
 at_ : Int
 length : Int
 rows : Int
def zku.setRows : zku -> Int -> zku
 | .mk x0 x1 _, v => .mk x0 x1 v
def zku.zero : zku := .mk 0 0 0
def zKU (x : zku) : List D := ([(.int .i64 x.at_)]) ++ ([(.int .i64 x.length)]) ++ ([(.int .i64 x.rows)])
theorem zwb (x : zku) : zKU x = ([(.int .i64 x.at_)]) ++ ([(.int .i64 x.length)]) ++ ([(.int .i64 x.rows)]) := rfl
@[go_sem] theorem zku.setRows_rows (x : zku) (v : Int) : (x.setRows v).rows = v := by cases x; rfl
structure zab where
 rest : Str
def zab.setRest : zab -> Str -> zab
 | .mk _, v => .mk v
def zab.zero : zab := .mk []
def zag (x : zab) : List D := ([(.str x.rest)])
theorem zew (x : zab) : zag x = ([(.str x.rest)]) := rfl
@[go_sem] theorem zab.setRest_rest (x : zab) (v : Str) : (x.setRest v).rest = v := by cases x; rfl
@[go_sem] theorem zEJ (x : zab) : (zag x).length = 1 := by simp [zew]
@[go_sem] theorem zab.zero_rest : zab.zero.rest = [] := rfl
@[go_sem] theorem zDA (x : zab) : only (zag x) = some (.str x.rest) := rfl
structure zpS where
 at_ : Int
 data : (Sl Int)
def zpS.zero : zpS := .mk 0 Sl.nil
def zuO (x : zpS) : List D := ([(.int .i64 x.at_)]) ++ ([(dSl (cI .u8) x.data)])
theorem zul (x : zpS) : zuO x = ([(.int .i64 x.at_)]) ++ ([(dSl (cI .u8) x.data)]) := rfl
structure zwP where
 durable : (Sl Int)
 pending : (Sl zpS)
 counter : Int
 failed : Bool
def zwP.zero : zwP := .mk Sl.nil Sl.nil 0 false
def zKV (x : zwP) : List D := ([(dSl (cI .u8) x.durable)]) ++ ([(dSl zuO x.pending)]) ++ ([(.int .i64 x.counter)]) ++ ([(.bool x.failed)])
theorem zwc (x : zwP) : zKV x = ([(dSl (cI .u8) x.durable)]) ++ ([(dSl zuO x.pending)]) ++ ([(.int .i64 x.counter)]) ++ ([(.bool x.failed)]) := rfl
theorem zd1 : type_of% (And.intro zcf (And.intro zbP (And.intro zkp (And.intro zeb (And.intro zcC (And.intro zcJ (And.intro zkq (And.intro ztn (And.intro zhp (And.intro zwb (And.intro zew (And.intro zul (zwc))))))))))))) := And.intro zcf (And.intro zbP (And.intro zkp (And.intro zeb (And.intro zcC (And.intro zcJ (And.intro zkq (And.intro ztn (And.intro zhp (And.intro zwb (And.intro zew (And.intro zul (zwc))))))))))))
end Go.Ev
namespace Go.Ev
def Evn (P : Nat -> Prop) : Prop := ∃ N, ∀ n, N <= n -> P n
structure zZe (p : Prop) : Prop where
 h : p
theorem evT : Evn fun _ => True := ⟨0, fun _ _ => trivial⟩
theorem Evn.and {P Q : Nat -> Prop} (E : Evn P) (k : ∃ N, ∀ n, N <= n -> Q n) : Evn fun n => P n /\ Q n := by
 obtain ⟨M, E⟩ := E
 obtain ⟨N, k⟩ := k
 exact ⟨M + N, fun n h => ⟨E n YJ, k n YJ⟩⟩
theorem Evn.lj {P Q : Nat -> Prop} (E : Evn P) (k : ∃ N, ∀ n, N <= n -> Q n) : ∃ N, zZe (∀ n, N <= n -> Q n) /\ Evn fun n => P n /\ N <= n := by
 obtain ⟨N, k⟩ := k
 exact ⟨N, ⟨k⟩, E.and ⟨N, fun _ h => h⟩⟩
theorem Evn.lp {P : Nat -> Prop} {Q : Nat -> Nat -> Prop} (E : Evn P) (k : ∃ N, ∀ n, N <= n -> ∀ k, N <= k -> Q n k) : ∃ N, zZe (∀ n, N <= n -> Q n n) /\ Evn fun n => P n /\ N <= n := by
 obtain ⟨N, k⟩ := k
 exact ⟨N, ⟨fun n h => k n h n h⟩, E.and ⟨N, fun _ h => h⟩⟩
theorem Evn.s {P Q : Nat -> Prop} (E : Evn P) (f : ∀ n, P n -> Q (n + 1)) : ∃ N, ∀ n, N <= n -> Q n := by
 obtain ⟨M, E⟩ := E
 refine ⟨M + 1, fun n h => ?_⟩
 obtain ⟨n, rfl⟩ := zS4 h
 exact f n (E n YJ)
theorem Evn.j {P Q : Nat -> Prop} (E : Evn P) (f : ∀ n, P n -> Q n) : ∃ N, ∀ n, N <= n -> Q n := by
 obtain ⟨M, E⟩ := E
 exact ⟨M, fun n h => f n (E n h)⟩
theorem Evn.l {P : Nat -> Prop} {Q : Nat -> Nat -> Prop} (E : Evn P) (f : ∀ n k, P n -> Q n (k + 1)) : ∃ N, ∀ n, N <= n -> ∀ k, N <= k -> Q n k := by
 obtain ⟨M, E⟩ := E
 refine ⟨M + 1, fun n h k hk => ?_⟩
 obtain ⟨k, rfl⟩ := zS4 hk
 exact f n k (E n YJ)
theorem Evn.c {P : Nat -> Prop} {I Q : Nat -> Nat -> Prop} (E : Evn P) (i : ∃ N, ∀ n, N <= n -> ∀ k, N <= k -> I n k) (f : ∀ n k, P n -> zZe (I n k) -> Q n (k + 1)) : ∃ N, ∀ n, N <= n -> ∀ k, N <= k -> Q n k := by
 obtain ⟨M, E⟩ := E
 obtain ⟨N, i⟩ := i
 refine ⟨M + N + 1, fun n h k hk => ?_⟩
 obtain ⟨k, rfl⟩ := zS4 hk
 exact f n k (E n YJ) ⟨i n YJ k YJ⟩
theorem em2 (p : Prop) : p ∨ (p = False) := (Classical.em p).imp id eq_false
section
variable {α : Type} {d : D} {m : Mem} {g T sz a b c' n : Nat} {c : α -> List D} {l : List α} {r : Sl α} {Ts : List Nat}
@[go_sem] theorem zTz (cells : List D) : zb9 (.ptr (.loc T 0) g 0 0) m T sz cells = (m (.loc T 0) = some (.rows g false true sz [cells])) := by
  simp [zb9]
@[go_sem] theorem zRB (cells : List D) : zGL (.ptr (.loc T 0) g 0 0) m T sz cells = (m (.loc T 0) = some (.rows g false false sz [cells])) := by
  simp [zGL]
@[go_sem] theorem zTx : zNT (.own (.loc T 0) g 0 n) m T sz c l = (n = l.length /\ m (.loc T 0) = some (.rows g false true sz (l.map c))) := by
  apply propext
  constructor
  · rintro ⟨g', h, k⟩; cases h; exact ⟨rfl, k⟩
  · rintro ⟨rfl, k⟩; exact ⟨g, rfl, k⟩
@[go_sem] theorem zQM (s : Str) (p : Nat) : zA4 (.iter (.loc T 0) g) m T s p = (m (.loc T 0) = some (.siter g s p)) := by
  simp [zA4]
@[go_sem] theorem zWB (rows : List Row) : zqZ (.sl .nil rows) m Ts sz c l = (rows = [] /\ l = []) := by
  apply propext
  constructor
  · rintro (⟨h, k⟩ | ⟨T, _, g', h, _⟩)
    · cases h; exact ⟨rfl, k⟩
    · cases h
  · rintro ⟨rfl, k⟩; exact .inl ⟨rfl, k⟩
@[go_sem] theorem zTy : zqZ (.own (.loc T 0) g 0 n) m Ts sz c l = (Ts.contains T = true /\ n = l.length /\ m (.loc T 0) = some (.rows g false true sz (l.map c)) /\ (l = []) = False) := by
  apply propext
  constructor
  · rintro (⟨h, k⟩ | ⟨T, hT, g', h, k, k'⟩)
    · cases h
    · cases h; exact ⟨by simpa using hT, rfl, k, k'⟩
  · rintro ⟨hT, rfl, k, k'⟩; exact .inr ⟨T, by simpa using hT, g, rfl, k, k'⟩
@[go_sem] theorem zTu : zA3 (.own (.loc T 0) g 0 n) m Ts sz c ⟨.any, l⟩ = (Ts.contains T = true /\ n = l.length /\ m (.loc T 0) = some (.rows g false true sz (l.map c))) := by
  apply propext
  constructor
  · rintro (h | ⟨T, hT, l, hl, g', h, k⟩)
    · cases h
    · cases h; cases hl; exact ⟨by simpa using hT, rfl, k⟩
  · rintro ⟨hT, rfl, k⟩; exact .inr ⟨T, by simpa using hT, l, rfl, g, rfl, k⟩
@[go_sem] theorem zOV (f : Fl) (rows : List Row) : zA3 (.sl f rows) m Ts sz c r = (.sl f rows = dSl c r) := by
  apply propext
  constructor
  · rintro (h | ⟨T, hT, l, hl, g', h, k⟩)
    · exact h
    · cases h
  · exact .inl
@[go_sem] theorem zTv (s : Sl α) : zA3 (dSl c s) m Ts sz c r = (dSl c s = dSl c r) := zOV _ _
theorem zAk (h : zqZ d m Ts sz c l) : (d = .sl .nil [] /\ l = []) ∨ ∃ T, T ∈ Ts /\ ∃ g, d = .own (.loc T 0) g 0 l.length /\ m (.loc T 0) = some (.rows g false true sz (l.map c)) /\ (l = []) = False := h
theorem zsi (h : zqZ d m [a] sz c l) : (d = .sl .nil [] /\ l = []) ∨ ∃ g, d = .own (.loc a 0) g 0 l.length /\ m (.loc a 0) = some (.rows g false true sz (l.map c)) /\ (l = []) = False := by
 simpa using zAk h
theorem zPQ (h : zqZ d m [a, b, c'] sz c l) : (d = .sl .nil [] /\ l = []) ∨ (∃ g, d = .own (.loc a 0) g 0 l.length /\ m (.loc a 0) = some (.rows g false true sz (l.map c)) /\ (l = []) = False) ∨ (∃ g, d = .own (.loc b 0) g 0 l.length /\ m (.loc b 0) = some (.rows g false true sz (l.map c)) /\ (l = []) = False) ∨ ∃ g, d = .own (.loc c' 0) g 0 l.length /\ m (.loc c' 0) = some (.rows g false true sz (l.map c)) /\ (l = []) = False := by
 simpa using zAk h
theorem zPP {t4 t5 : Nat} (h : zqZ d m [a, b, c', t4, t5] sz c l) : (d = .sl .nil [] /\ l = []) ∨ (∃ g, d = .own (.loc a 0) g 0 l.length /\ m (.loc a 0) = some (.rows g false true sz (l.map c)) /\ (l = []) = False) ∨ (∃ g, d = .own (.loc b 0) g 0 l.length /\ m (.loc b 0) = some (.rows g false true sz (l.map c)) /\ (l = []) = False) ∨ (∃ g, d = .own (.loc c' 0) g 0 l.length /\ m (.loc c' 0) = some (.rows g false true sz (l.map c)) /\ (l = []) = False) ∨ (∃ g, d = .own (.loc t4 0) g 0 l.length /\ m (.loc t4 0) = some (.rows g false true sz (l.map c)) /\ (l = []) = False) ∨ (∃ g, d = .own (.loc t5 0) g 0 l.length /\ m (.loc t5 0) = some (.rows g false true sz (l.map c)) /\ (l = []) = False) := by
 simpa using zAk h
theorem zFN (h : zA3 d m Ts sz c r) : d = dSl c r ∨ ∃ T, T ∈ Ts /\ ∃ l, r = Sl.of l /\ ∃ g, d = .own (.loc T 0) g 0 l.length /\ m (.loc T 0) = some (.rows g false true sz (l.map c)) := h
theorem zFO (h : zA3 d m [a] sz c r) : d = dSl c r ∨ ∃ l g, r = Sl.of l /\ d = .own (.loc a 0) g 0 l.length /\ m (.loc a 0) = some (.rows g false true sz (l.map c)) := by
 rcases zFN h with h | ⟨T, hT, l, hl, g, h', k⟩
 · exact .inl h
 · obtain rfl := List.mem_singleton.1 hT; exact .inr ⟨l, g, hl, h', k⟩
end
@[go_sem] theorem z1p (k : IntKind) (l : List Int) : ((l.map (cI k)).all fun r => List.length r == 1) = true := by simp [cI]
@[go_sem] theorem zZA {α : Type} (c : α -> List D) (s : Sl α) : zoM (dSl c s) = pure (s.l.map c, [], true) := rfl
def zN9 (k : IntKind) (x y : Int) : Int := k.wrap (BitVec.ofInt k.bits x ^^^ BitVec.ofInt k.bits y).toNat
def zyK (k : IntKind) (x y : Int) : Int := x.fdiv (2 ^ min y.toNat k.bits)
def zJv (k : IntKind) (x y : Int) : Int := k.wrap (BitVec.ofInt k.bits x &&& BitVec.ofInt k.bits y).toNat
def orK (k : IntKind) (x y : Int) : Int := k.wrap (BitVec.ofInt k.bits x ||| BitVec.ofInt k.bits y).toNat
def zOw (k : IntKind) (x y : Int) : Int := k.wrap (x * 2 ^ min y.toNat k.bits)
@[go_sem] theorem zZd (k : IntKind) (x y : Int) : zJv k x y = k.wrap (BitVec.ofInt k.bits x &&& BitVec.ofInt k.bits y).toNat := rfl
@[go_sem] theorem zZh (k : IntKind) (x y : Int) : orK k x y = k.wrap (BitVec.ofInt k.bits x ||| BitVec.ofInt k.bits y).toNat := rfl
@[go_sem] theorem zWv (k : IntKind) (x y : Int) : zOw k x y = k.wrap (x * 2 ^ min y.toNat k.bits) := rfl
@[go_sem] theorem zWt (k : IntKind) (x y : Int) : zN9 k x y = k.wrap (BitVec.ofInt k.bits x ^^^ BitVec.ofInt k.bits y).toNat := rfl
@[go_sem] theorem zWu (k : IntKind) (x y : Int) : zyK k x y = x.fdiv (2 ^ min y.toNat k.bits) := rfl
@[go_sem] def zRF {α : Type} (l : List α) : Bool := open Classical in if l = [] then true else false
def zyF {α : Type} (m : Mem) (i g sz : Nat) (cells : D -> List D) (Ts : List Nat) (esz : Nat) (c : α -> List D) (l : List α) : Prop :=
 ∃ d, m (.arg i) = some (.rows g false (zRF l) sz [cells d]) /\ zqZ d m Ts esz c l
theorem zgo {body : (Ex -> St -> Option Res) -> St -> Option Res} {k : Ex -> St -> Option Res} {n : Nat} {s : St} {t : Tok (body, k, n)} {R : Option Res -> Prop} (h : R (zbU body k n s)) : R (zM8 body k n t s) := h
def zw8 {α : Type} (s : Sl α) : Bool := match s.fl with
 | .nil => true
 | .any => false
 | .full => false
@[go_sem] theorem zTb {α : Type} (l : List α) : zw8 ⟨.any, l⟩ = false := rfl
def zFW {α : Type} (s : Sl α) (g : Nat) : D := if zw8 s = true then .sl .nil [] else .own (.loc 0 0) g 0 s.l.length
def zso {α : Type} (g sz : Nat) (c : α -> List D) (s : Sl α) : List Blk := if zw8 s = true then [] else [.rows g false true sz (s.l.map c)]
def zWp {α : Type} (d : D) (m : Mem) (Ts : List Nat) (sz : Nat) (c : α -> List D) (r : Sl α) : Prop :=
 (d = .sl .nil [] /\ zw8 r = true) ∨ ∃ T, T ∈ Ts /\ ∃ l, r = Sl.of l /\ ∃ g, d = .own (.loc T 0) g 0 l.length /\ m (.loc T 0) = some (.rows g false true sz (l.map c))
theorem zTt {α : Type} {d : D} {m : Mem} {sz a : Nat} {c : α -> List D} {r : Sl α} (h : zWp d m [a] sz c r) : (d = .sl .nil [] /\ zw8 r = true) ∨ ∃ l g, r = Sl.of l /\ d = .own (.loc a 0) g 0 l.length /\ m (.loc a 0) = some (.rows g false true sz (l.map c)) := by
 rcases h with h | ⟨T, hT, l, hl, g, h', k⟩
 · exact .inl h
 · obtain rfl := List.mem_singleton.1 hT; exact .inr ⟨l, g, hl, h', k⟩
end Go.Ev
namespace Go.Ev
theorem zs {p : Prop} (h : p := by simp -dsimp -implicitDefEqProofs only [go_sem, *, simprocAttr]; done) : p := h
theorem zt {p q : Prop} (h : q) (e : p = q := by conv => lhs; simp -dsimp -implicitDefEqProofs only [go_sem, *, simprocAttr]) : p := e ▸ h
theorem zv {p q : Prop} (h : q) (e : p = q := by conv => lhs; simp -dsimp -implicitDefEqProofs only [go_sem, simprocAttr]) : p := e ▸ h
theorem YM {p q : Prop} (h : p) (e : p = q := by conv => lhs; simp -dsimp -implicitDefEqProofs only [go_sem, simprocAttr]) : q := e ▸ h
def zfR (a b : Int) : Int := if a < b then -1 else if b < a then 1 else 0
def orI (a b : Int) : Int := if a = 0 then b else a
def zwY {α : Type} (f : α -> α -> Int) : List α -> List α -> Int
 | [], [] => 0
 | [], _ :: _ => -1
 | _ :: _, [] => 1
 | x :: xs, y :: ys => orI (f x y) (zwY f xs ys)
def zH7 : Str -> Str -> Int := fun a b => if zdf a b then -1 else if zdf b a then 1 else 0
def zpB (a b : zbZ) : Int := orI (zfR a.table b.table) (zfR a.seq b.seq)
def zfd (a b : Val) : Int := orI (zfR a.kind b.kind) (orI (zfR a.int b.int) (zH7 a.text b.text))
mutual
def zfs : zam -> zam -> Int
 | .mk c ⟨_, fs⟩, y => orI (zbX fs y.factors.l) (zfR c y.coeff)
def zbX : List zaj -> List zaj -> Int
 | [], [] => 0
 | [], _ :: _ => -1
 | _ :: _, [] => 1
 | x :: xs, y :: ys => orI (zct x y) (zbX xs ys)
def zct : zaj -> zaj -> Int
 | .mk a e, y => orI (zb3 a y.atom) (zfR e y.exp)
def zb3 : zas -> zas -> Int
 | .mk k r ⟨_, as⟩ f ⟨_, is⟩ o b, y => orI (zfR k y.kind) (orI (zpB r y.row) (orI (zgg as y.args.l) (orI (zfR f y.func) (orI (zcU is y.items.l) (orI (zfR o y.op) (zfd b y.bound))))))
def zgg : List (Sl zam) -> List (Sl zam) -> Int
 | [], [] => 0
 | [], _ :: _ => -1
 | _ :: _, [] => 1
 | ⟨_, x⟩ :: xs, y :: ys => orI (zdz x y.l) (zgg xs ys)
def zdz : List zam -> List zam -> Int
 | [], [] => 0
 | [], _ :: _ => -1
 | _ :: _, [] => 1
 | x :: xs, y :: ys => orI (zfs x y) (zdz xs ys)
def zcU : List zae -> List zae -> Int
 | [], [] => 0
 | [], _ :: _ => -1
 | _ :: _, [] => 1
 | x :: xs, y :: ys => orI (zcV x y) (zcU xs ys)
def zcV : zae -> zae -> Int
 | .mk v ⟨_, l⟩, y => orI (zfd v y.value) (zdz l y.ann.l)
end
def zcR (a b : Sl zam) : Int := zdz a.l b.l
theorem zv8 (a b : List zaj) : zbX a b = zwY zct a b := by
 induction a generalizing b with
 | nil => cases b <;> simp [zbX, zwY]
 | cons x a ih => cases b <;> simp [zbX, zwY, ih]
theorem zj6 (a b : List (Sl zam)) : zgg a b = zwY zcR a b := by
 induction a generalizing b with
 | nil => cases b <;> simp [zgg, zwY]
 | cons x a ih => cases b <;> cases x <;> simp [zgg, zwY, ih, zcR]
theorem zAA (a b : List zam) : zdz a b = zwY zfs a b := by
 induction a generalizing b with
 | nil => cases b <;> simp [zdz, zwY]
 | cons x a ih => cases b <;> simp [zdz, zwY, ih]
theorem zAB (a b : List zae) : zcU a b = zwY zcV a b := by
 induction a generalizing b with
 | nil => cases b <;> simp [zcU, zwY]
 | cons x a ih => cases b <;> simp [zcU, zwY, ih]
theorem zm2 (x y : zam) : zfs x y = orI (zbX x.factors.l y.factors.l) (zfR x.coeff y.coeff) := by rcases x with ⟨c, ⟨f, l⟩⟩; simp only [zfs, zam.coeff, zam.factors]
theorem zor (x y : zaj) : zct x y = orI (zb3 x.atom y.atom) (zfR x.exp y.exp) := by cases x; simp only [zct, zaj.atom, zaj.exp]
theorem zm3 (x y : zae) : zcV x y = orI (zfd x.value y.value) (zcR x.ann y.ann) := by rcases x with ⟨v, ⟨f, l⟩⟩; simp only [zcV, zcR, zae.value, zae.ann]
theorem zm4 (x y : zas) : zb3 x y = orI (zfR x.kind y.kind) (orI (zpB x.row y.row) (orI (zgg x.args.l y.args.l) (orI (zfR x.func y.func) (orI (zcU x.items.l y.items.l) (orI (zfR x.op y.op) (zfd x.bound y.bound)))))) := by
 rcases x with ⟨k, r, ⟨f, a⟩, fn, ⟨g, i⟩, o, b⟩; simp only [zb3, zas.kind, zas.row, zas.args, zas.func, zas.items, zas.op, zas.bound]
mutual
def zcH : zam -> Nat
 | .mk _ ⟨_, fs⟩ => zaD fs + 1
def zaD : List zaj -> Nat
 | [] => 0
 | x :: xs => zc8 x + zaD xs + 1
def zc8 : zaj -> Nat
 | .mk a _ => zby a + 1
def zby : zas -> Nat
 | .mk _ _ ⟨_, as⟩ _ ⟨_, is⟩ _ b => zcw as + zbb is + b.text.length + 1
def zcw : List (Sl zam) -> Nat
 | [] => 0
 | ⟨_, x⟩ :: xs => zak x + zcw xs + 1
def zak : List zam -> Nat
 | [] => 0
 | x :: xs => zcH x + zak xs + 1
def zbb : List zae -> Nat
 | [] => 0
 | x :: xs => zei x + zbb xs + 1
def zei : zae -> Nat
 | .mk v ⟨_, l⟩ => zak l + v.text.length + 1
end
theorem zdq (x : zam) : zcH x = zaD x.factors.l + 1 := by rcases x with ⟨c, ⟨f, l⟩⟩; simp only [zcH, zam.factors]
theorem zcB (x : zaj) : zc8 x = zby x.atom + 1 := by cases x; simp only [zc8, zaj.atom]
theorem zjp (x : zae) : zei x = zak x.ann.l + x.value.text.length + 1 := by rcases x with ⟨v, ⟨f, l⟩⟩; simp only [zei, zae.value, zae.ann]
theorem zcr (x : zas) : zby x = zcw x.args.l + zbb x.items.l + x.bound.text.length + 1 := by
 rcases x with ⟨k, r, ⟨f, a⟩, fn, ⟨g, i⟩, o, b⟩; simp only [zby, zas.args, zas.items, zas.bound]
theorem zcS {l : List zaj} {i : Nat} {x : zaj} (h : l[i]? = some x) : zc8 x < zaD l := by
 induction l generalizing i with
 | nil => simp at h
 | cons y l ih => cases i with
   | zero => simp at h; subst h; simp [zaD]; omega
   | succ i => have := ih (by simpa using h); simp [zaD]; omega
theorem zdk {l : List zam} {i : Nat} {x : zam} (h : l[i]? = some x) : zcH x < zak l := by
 induction l generalizing i with
 | nil => simp at h
 | cons y l ih => cases i with
   | zero => simp at h; subst h; simp [zak]; omega
   | succ i => have := ih (by simpa using h); simp [zak]; omega
theorem zil {l : List zae} {i : Nat} {x : zae} (h : l[i]? = some x) : zei x < zbb l := by
 induction l generalizing i with
 | nil => simp at h
 | cons y l ih => cases i with
   | zero => simp at h; subst h; simp [zbb]; omega
   | succ i => have := ih (by simpa using h); simp [zbb]; omega
theorem zfQ {l : List (Sl zam)} {i : Nat} {x : Sl zam} (h : l[i]? = some x) : zak x.l < zcw l := by
 induction l generalizing i with
 | nil => simp at h
 | cons y l ih => cases i with
   | zero => simp at h; subst h; cases y; simp [zcw]; omega
   | succ i => have := ih (by simpa using h); cases y; simp [zcw]; omega
theorem zbO (l : List zaj) : l.length <= zaD l := by
 induction l with
 | nil => simp
 | cons y l ih => simp [zaD]; omega
theorem zb4 (l : List zam) : l.length <= zak l := by
 induction l with
 | nil => simp
 | cons y l ih => simp [zak]; omega
theorem zcA (l : List zae) : l.length <= zbb l := by
 induction l with
 | nil => simp
 | cons y l ih => simp [zbb]; omega
theorem zd6 (l : List (Sl zam)) : l.length <= zcw l := by
 induction l with
 | nil => simp
 | cons y l ih => cases y; simp [zcw]; omega
def zkY (n : Int) : Prop := -9223372036854775808 <= n /\ n <= 9223372036854775807
def zw1 (r : zbZ) : Prop := zkY r.table /\ zkY r.seq
def zlH (v : Val) : Prop := zkY v.kind /\ zkY v.int
mutual
def zrV : zam -> Prop
 | .mk c ⟨_, fs⟩ => zkY c /\ zhb fs
def zhb : List zaj -> Prop
 | [] => True
 | x :: xs => zh9 x /\ zhb xs
def zh9 : zaj -> Prop
 | .mk a e => zii a /\ zkY e
def zii : zas -> Prop
 | .mk k r ⟨_, as⟩ f ⟨_, is⟩ o b => zkY k /\ zw1 r /\ zya as /\ zkY f /\ zk6 is /\ zkY o /\ zlH b
def zya : List (Sl zam) -> Prop
 | [] => True
 | ⟨_, x⟩ :: xs => zbB x /\ zya xs
def zbB : List zam -> Prop
 | [] => True
 | x :: xs => zrV x /\ zbB xs
def zk6 : List zae -> Prop
 | [] => True
 | x :: xs => zzA x /\ zk6 xs
def zzA : zae -> Prop
 | .mk v ⟨_, l⟩ => zlH v /\ zbB l
end
theorem zrU (x : zam) : zrV x ↔ zkY x.coeff /\ zhb x.factors.l := by rcases x with ⟨c, ⟨f, l⟩⟩; simp only [zrV, zam.coeff, zam.factors]
theorem zm5 (x : zaj) : zh9 x ↔ zii x.atom /\ zkY x.exp := by cases x; simp only [zh9, zaj.atom, zaj.exp]
theorem zrW (x : zae) : zzA x ↔ zlH x.value /\ zbB x.ann.l := by rcases x with ⟨v, ⟨f, l⟩⟩; simp only [zzA, zae.value, zae.ann]
theorem zjo (x : zas) : zii x ↔ zkY x.kind /\ zw1 x.row /\ zya x.args.l /\ zkY x.func /\ zk6 x.items.l /\ zkY x.op /\ zlH x.bound := by
 rcases x with ⟨k, r, ⟨f, a⟩, fn, ⟨g, i⟩, o, b⟩; simp only [zii, zas.kind, zas.row, zas.args, zas.func, zas.items, zas.op, zas.bound]
theorem zpV (l : List zam) : zbB l ↔ ∀ x ∈ l, zrV x := by
 induction l with
 | nil => simp [zbB]
 | cons x l ih => simp [zbB, ih]
theorem zpX (l : List zaj) : zhb l ↔ ∀ x ∈ l, zh9 x := by
 induction l with
 | nil => simp [zhb]
 | cons x l ih => simp [zhb, ih]
theorem zpW (l : List zae) : zk6 l ↔ ∀ x ∈ l, zzA x := by
 induction l with
 | nil => simp [zk6]
 | cons x l ih => simp [zk6, ih]
theorem zw2 (l : List (Sl zam)) : zya l ↔ ∀ x ∈ l, zbB x.l := by
 induction l with
 | nil => simp [zya]
 | cons x l ih => cases x; simp [zya, ih]
def zgf {α : Type} (f : α -> Nat) : List α -> Nat
 | [] => 0
 | x :: l => f x + zgf f l
theorem zuz (l : List zam) : zak l = zgf (fun x => zcH x + 1) l := by
 induction l with
 | nil => rfl
 | cons x l ih => simp only [zak, zgf, ih]; omega
theorem zp4 (l : List zaj) : zaD l = zgf (fun x => zc8 x + 1) l := by
 induction l with
 | nil => rfl
 | cons x l ih => simp only [zaD, zgf, ih]; omega
theorem zuA (l : List zae) : zbb l = zgf (fun x => zei x + 1) l := by
 induction l with
 | nil => rfl
 | cons x l ih => simp only [zbb, zgf, ih]; omega
theorem zJH (l : List (Sl zam)) : zcw l = zgf (fun x => zak x.l + 1) l := by
 induction l with
 | nil => rfl
 | cons x l ih => cases x; simp only [zcw, zgf, ih]; omega
def sgn (b : Bool) : Int := if b then -1 else 1
def zbF (a b : Sl zaj) : Int := zbX a.l b.l
def zcI (a b : Sl zae) : Int := zcU a.l b.l
noncomputable def zoA (kk : Nat) (a b : Int) : Option (Int) :=
 sel (
  some (-1)) (
  sel (
   some 1) (
   some 0) (decide (b < a))) (decide (a < b))
noncomputable def zx1 (kk : Nat) (a : Bool) : Option (Int) :=
 sel (
  some (-1)) (
  some 1) (a)
noncomputable def zjN (kk : Nat) (a b : zbZ) : Option (Int) :=
 sel (
  some (zfR a.table b.table)) (
  some (zfR a.seq b.seq)) ((zfR a.table b.table) != 0)
noncomputable def zmT (kk : Nat) (a b : Val) : Option (Int) :=
 sel (
  some (sgn (decide (a.kind < b.kind)))) (
  sel (
   some (sgn (decide (a.int < b.int)))) (
   sel (
    some (sgn (zdf a.text b.text))) (
    some 0) (!(a.text == b.text))) (a.int != b.int)) (a.kind != b.kind)
noncomputable def zdn (c2 c3 : zas) (sz kk : Nat) : Nat -> Int -> Option (Out (Int) (Int))
 | 0, _ => none
 | k + 1, s1 =>
   sel (
    bnd (ix c2.args.l s1) fun (y4 : (Sl zam)) =>
    bnd (ix c3.args.l s1) fun (y5 : (Sl zam)) =>
    bnd (okP (zak y4.l + zak y5.l < sz)) fun _ =>
    sel (
     some (.ret (zcR y4 y5))) (
     zdn c2 c3 sz kk k (IntKind.wrap .i64 (s1 + 1))) ((zcR y4 y5) != 0)) (
    some (.done s1)) ((decide (s1 < (c2.args.l.length : Int))) && (decide (s1 < (c3.args.l.length : Int))))
noncomputable def zi8 (kk sz : Nat) (a b : zas) : Option (Int) :=
 sel (
  some (zfR a.kind b.kind)) (
  sel (
   some (zpB a.row b.row)) (
   zgD (zdn a b sz kk kk 0) (fun r => some r) fun (q7 : Int) =>
    sel (
     some (zfR (a.args.l.length : Int) (b.args.l.length : Int))) (
     sel (
      some (zfR a.func b.func)) (
      bnd (okP (zbb a.items.l + zbb b.items.l < sz)) fun _ =>
      sel (
       some (zcI a.items b.items)) (
       sel (
        some (zfR a.op b.op)) (
        some (zfd a.bound b.bound)) ((zfR a.op b.op) != 0)) ((zcI a.items b.items) != 0)) ((zfR a.func b.func) != 0)) ((zfR (a.args.l.length : Int) (b.args.l.length : Int)) != 0)) ((zpB a.row b.row) != 0)) ((zfR a.kind b.kind) != 0)
noncomputable def zf9 (c1 c2 : Sl zaj) (sz kk : Nat) : Nat -> Int -> Option (Out (Int) (Int))
 | 0, _ => none
 | k + 1, s3 =>
   sel (
    bnd (ix c1.l s3) fun (y4 : zaj) =>
    bnd (ix c2.l s3) fun (y5 : zaj) =>
    bnd (okP (zby y4.atom + zby y5.atom < sz)) fun _ =>
    sel (
     some (.ret (zb3 y4.atom y5.atom))) (
     sel (
      some (.ret (zfR y4.exp y5.exp))) (
      zf9 c1 c2 sz kk k (IntKind.wrap .i64 (s3 + 1))) ((zfR y4.exp y5.exp) != 0)) ((zb3 y4.atom y5.atom) != 0)) (
    some (.done s3)) ((decide (s3 < (c1.l.length : Int))) && (decide (s3 < (c2.l.length : Int))))
noncomputable def zg6 (kk sz : Nat) (a : (Sl zaj)) (b : (Sl zaj)) : Option (Int) :=
 zgD (zf9 a b sz kk kk 0) (fun r => some r) fun (q7 : Int) =>
  some (zfR (a.l.length : Int) (b.l.length : Int))
noncomputable def zg4 (c1 c2 : Sl zae) (sz kk : Nat) : Nat -> Int -> Option (Out (Int) (Int))
 | 0, _ => none
 | k + 1, s3 =>
   sel (
    bnd (ix c1.l s3) fun (y4 : zae) =>
    bnd (ix c2.l s3) fun (y5 : zae) =>
    sel (
     some (.ret (zfd y4.value y5.value))) (
     bnd (okP (zak y4.ann.l + zak y5.ann.l < sz)) fun _ =>
     sel (
      some (.ret (zcR y4.ann y5.ann))) (
      zg4 c1 c2 sz kk k (IntKind.wrap .i64 (s3 + 1))) ((zcR y4.ann y5.ann) != 0)) ((zfd y4.value y5.value) != 0)) (
    some (.done s3)) ((decide (s3 < (c1.l.length : Int))) && (decide (s3 < (c2.l.length : Int))))
noncomputable def zie (kk sz : Nat) (a : (Sl zae)) (b : (Sl zae)) : Option (Int) :=
 zgD (zg4 a b sz kk kk 0) (fun r => some r) fun (q7 : Int) =>
  some (zfR (a.l.length : Int) (b.l.length : Int))
noncomputable def zkM (c1 c2 : Sl zam) (sz kk : Nat) : Nat -> Int -> Option (Out (Int) (Int))
 | 0, _ => none
 | k + 1, s3 =>
   sel (
    bnd (ix c1.l s3) fun (y4 : zam) =>
    bnd (ix c2.l s3) fun (y5 : zam) =>
    bnd (okP (zaD y4.factors.l + zaD y5.factors.l < sz)) fun _ =>
    sel (
     some (.ret (zbF y4.factors y5.factors))) (
     sel (
      some (.ret (zfR y4.coeff y5.coeff))) (
      zkM c1 c2 sz kk k (IntKind.wrap .i64 (s3 + 1))) ((zfR y4.coeff y5.coeff) != 0)) ((zbF y4.factors y5.factors) != 0)) (
    some (.done s3)) ((decide (s3 < (c1.l.length : Int))) && (decide (s3 < (c2.l.length : Int))))
noncomputable def zmR (kk sz : Nat) (a : (Sl zam)) (b : (Sl zam)) : Option (Int) :=
 zgD (zkM a b sz kk kk 0) (fun r => some r) fun (q7 : Int) =>
  some (zfR (a.l.length : Int) (b.l.length : Int))
def zKh (a : Int) : Bool := false
def zsa : List Int -> Int
 | [] => 0
 | x :: l => orI x (zsa l)
def orL (a : Sl Int) : Int := zsa a.l
def ze4 (a b : zam) : Int := zbX a.factors.l b.factors.l
def zqJ (a b : Sl (Sl zam)) : Int := zgg a.l b.l
noncomputable def zkS (kk : Nat) (a : Int) : Option (Bool) :=
 some (a != a)
noncomputable def zja (kk : Nat) (a : Int) : Option (Bool) :=
 some (a != a)
noncomputable def zjb (kk : Nat) (a b : Int) : Option (Int) :=
 sel (
  sel (
   some 0) (
   some (-1)) ((zKh b))) (
  sel (
   some 1) (
   sel (
    some (-1)) (
    sel (
     some 1) (
     some 0) (decide (b < a))) (decide (a < b))) ((zKh b))) ((zKh a))
noncomputable def zjZ (kk : Nat) (a b : Int) : Option (Int) :=
 sel (
  sel (
   some 0) (
   some (-1)) ((zKh b))) (
  sel (
   some 1) (
   sel (
    some (-1)) (
    sel (
     some 1) (
     some 0) (decide (b < a))) (decide (a < b))) ((zKh b))) ((zKh a))
noncomputable def zel (c1 : Sl Int) (c2 : Int) (kk : Nat) : Nat -> Int -> Option (Out (Int) (Int))
 | 0, _ => none
 | k + 1, s3 =>
   sel (
    bnd (ix c1.l s3) fun (y4 : Int) =>
    sel (
     some (.ret y4)) (
     zel c1 c2 kk k (IntKind.wrap .i64 (s3 + 1))) (y4 != 0)) (
    some (.done s3)) (decide (s3 < c2))
noncomputable def zoG (kk : Nat) (a : (Sl Int)) : Option (Int) :=
 zgD (zel a (a.l.length : Int) kk kk 0) (fun r => some r) fun (q5 : Int) =>
  some 0
noncomputable def zkO (kk : Nat) (a b : Val) : Option (Int) :=
 bnd (okP ((Sl.of [(zfR a.kind b.kind), (zfR a.int b.int), (zH7 a.text b.text)]).l.length < 100)) fun _ =>
 some (orL (Sl.of [(zfR a.kind b.kind), (zfR a.int b.int), (zH7 a.text b.text)]))
noncomputable def zha (kk sz : Nat) (a : (Sl zam)) (b : (Sl zam)) : Option (Int) :=
 bnd (okP (8 * (zak a.l + zak b.l) + 6 < sz)) fun _ =>
 some (zcR a b)
noncomputable def zbu (c1 c2 c3 : Sl zam) (c4 : Int) (sz kk : Nat) : Nat -> Int -> Option (Out (Int) (Int))
 | 0, _ => none
 | k + 1, s5 =>
   sel (
    bnd (ix c3.l s5) fun (y6 : zam) =>
    sel (
     some (.ret 1)) (
     bnd (ix c2.l s5) fun (y7 : zam) =>
     bnd (okP (8 * (zcH y6 + zcH y7) + 5 < sz)) fun _ =>
     sel (
      some (.ret (zfs y6 y7))) (
      zbu c1 c2 c3 c4 sz kk k (IntKind.wrap .i64 (s5 + 1))) ((zfs y6 y7) != 0)) (decide ((c2.l.length : Int) <= s5))) (
    some (.done s5)) (decide (s5 < c4))
noncomputable def zbA (kk sz : Nat) (a : (Sl zam)) (b : (Sl zam)) : Option (Int) :=
 zgD (zbu a b a (a.l.length : Int) sz kk kk 0) (fun r => some r) fun (q9 : Int) =>
  sel (
   some (-1)) (
   some 0) (decide ((a.l.length : Int) < (b.l.length : Int)))
noncomputable def zgb (kk sz : Nat) (a b : zam) : Option (Int) :=
 bnd (okP (8 * (zcH a + zcH b) + 4 < sz)) fun _ =>
 bnd (okP ((Sl.of [(ze4 a b), (zfR a.coeff b.coeff)]).l.length < 100)) fun _ =>
 some (orL (Sl.of [(ze4 a b), (zfR a.coeff b.coeff)]))
noncomputable def zep (kk sz : Nat) (a b : zam) : Option (Int) :=
 bnd (okP (8 * (zaD a.factors.l + zaD b.factors.l) + 7 < sz)) fun _ =>
 some (zbF a.factors b.factors)
noncomputable def za9 (c1 c2 c3 : Sl zaj) (c4 : Int) (sz kk : Nat) : Nat -> Int -> Option (Out (Int) (Int))
 | 0, _ => none
 | k + 1, s5 =>
   sel (
    bnd (ix c3.l s5) fun (y6 : zaj) =>
    sel (
     some (.ret 1)) (
     bnd (ix c2.l s5) fun (y7 : zaj) =>
     bnd (okP (8 * (zc8 y6 + zc8 y7) + 5 < sz)) fun _ =>
     sel (
      some (.ret (zct y6 y7))) (
      za9 c1 c2 c3 c4 sz kk k (IntKind.wrap .i64 (s5 + 1))) ((zct y6 y7) != 0)) (decide ((c2.l.length : Int) <= s5))) (
    some (.done s5)) (decide (s5 < c4))
noncomputable def zbg (kk sz : Nat) (a : (Sl zaj)) (b : (Sl zaj)) : Option (Int) :=
 zgD (za9 a b a (a.l.length : Int) sz kk kk 0) (fun r => some r) fun (q9 : Int) =>
  sel (
   some (-1)) (
   some 0) (decide ((a.l.length : Int) < (b.l.length : Int)))
noncomputable def zdN (kk sz : Nat) (a b : zaj) : Option (Int) :=
 bnd (okP (8 * (zby a.atom + zby b.atom) + 7 < sz)) fun _ =>
 bnd (okP ((Sl.of [(zb3 a.atom b.atom), (zfR a.exp b.exp)]).l.length < 100)) fun _ =>
 some (orL (Sl.of [(zb3 a.atom b.atom), (zfR a.exp b.exp)]))
noncomputable def zer (kk sz : Nat) (a b : zas) : Option (Int) :=
 bnd (okP (8 * (zcw a.args.l + zcw b.args.l) + 6 < sz)) fun _ =>
 bnd (okP (8 * (zbb a.items.l + zbb b.items.l) + 6 < sz)) fun _ =>
 bnd (okP ((Sl.of [(zfR a.kind b.kind), (zfR a.row.table b.row.table), (zfR a.row.seq b.row.seq), (zqJ a.args b.args), (zfR a.func b.func), (zcI a.items b.items), (zfR a.op b.op), (zfd a.bound b.bound)]).l.length < 100)) fun _ =>
 some (orL (Sl.of [(zfR a.kind b.kind), (zfR a.row.table b.row.table), (zfR a.row.seq b.row.seq), (zqJ a.args b.args), (zfR a.func b.func), (zcI a.items b.items), (zfR a.op b.op), (zfd a.bound b.bound)]))
noncomputable def zbh (c1 : Sl (Sl zam)) (c2 : Sl (Sl zam)) (c3 : Sl (Sl zam)) (c4 : Int) (sz : Nat) (kk : Nat) : Nat -> Int -> Option (Out (Int) (Int))
 | 0, _ => none
 | k + 1, s5 =>
   sel (
    bnd (ix c3.l s5) fun (y6 : (Sl zam)) =>
    sel (
     some (.ret 1)) (
     bnd (ix c2.l s5) fun (y7 : (Sl zam)) =>
     bnd (okP (8 * (zak y6.l + zak y7.l) + 7 < sz)) fun _ =>
     sel (
      some (.ret (zcR y6 y7))) (
      zbh c1 c2 c3 c4 sz kk k (IntKind.wrap .i64 (s5 + 1))) ((zcR y6 y7) != 0)) (decide ((c2.l.length : Int) <= s5))) (
    some (.done s5)) (decide (s5 < c4))
noncomputable def zbs (kk sz : Nat) (a : (Sl (Sl zam))) (b : (Sl (Sl zam))) : Option (Int) :=
 zgD (zbh a b a (a.l.length : Int) sz kk kk 0) (fun r => some r) fun (q9 : Int) =>
  sel (
   some (-1)) (
   some 0) (decide ((a.l.length : Int) < (b.l.length : Int)))
noncomputable def za8 (c1 c2 c3 : Sl zae) (c4 : Int) (sz kk : Nat) : Nat -> Int -> Option (Out (Int) (Int))
 | 0, _ => none
 | k + 1, s5 =>
   sel (
    bnd (ix c3.l s5) fun (y6 : zae) =>
    sel (
     some (.ret 1)) (
     bnd (ix c2.l s5) fun (y7 : zae) =>
     bnd (okP (8 * (zei y6 + zei y7) + 5 < sz)) fun _ =>
     sel (
      some (.ret (zcV y6 y7))) (
      za8 c1 c2 c3 c4 sz kk k (IntKind.wrap .i64 (s5 + 1))) ((zcV y6 y7) != 0)) (decide ((c2.l.length : Int) <= s5))) (
    some (.done s5)) (decide (s5 < c4))
noncomputable def zbf (kk sz : Nat) (a : (Sl zae)) (b : (Sl zae)) : Option (Int) :=
 zgD (za8 a b a (a.l.length : Int) sz kk kk 0) (fun r => some r) fun (q9 : Int) =>
  sel (
   some (-1)) (
   some 0) (decide ((a.l.length : Int) < (b.l.length : Int)))
noncomputable def zeq (kk sz : Nat) (a b : zae) : Option (Int) :=
 bnd (okP (8 * (zak a.ann.l + zak b.ann.l) + 7 < sz)) fun _ =>
 bnd (okP ((Sl.of [(zfd a.value b.value), (zcR a.ann b.ann)]).l.length < 100)) fun _ =>
 some (orL (Sl.of [(zfd a.value b.value), (zcR a.ann b.ann)]))
mutual
theorem zvz : ∀ (a : D), zog a a = true
 | .bool a => by simp [zog]
 | .int j a => by simp [zog]
 | .str a => by simp [zog]
 | .nilp => rfl
 | .ptr b g r o => by simp [zog]
 | .eptr a o => by simp [zog, zlb a]
 | .sl f a => by simp [zog, zxa a]
 | .own b g r o => by simp [zog]
 | .nilm => rfl
 | .map b g => by simp [zog]
 | .iter b g => by simp [zog]
 | .fn f a b => by simp [zog, zlb a, zlb b]
 | .nilf => rfl
 | .iface t v => by simp [zog, zvz v]
 | .nili => rfl
 | .agg a => by simp [zog, zlb a]
 | .tup a => by simp [zog, zlb a]
 | .unk => rfl
theorem zlb : ∀ (l : List D), zxb l l = true
 | [] => rfl
 | a :: r => by simp [zxb, zvz a, zlb r]
theorem zxa : ∀ (l : List (List D)), zDf l l = true
 | [] => rfl
 | a :: r => by simp [zDf, zlb a, zxa r]
end
theorem zCl : ∀ (l : List Ent), zE7 l l = true
 | [] => rfl
 | a :: r => by simp [zE7, zvz, zCl r]
theorem zJK (a : Blk) : zLR a a = true := by cases a <;> simp [zLR, zxa, zCl]
theorem zzS : ∀ (l : List Blk), zvA l l = true
 | [] => rfl
 | a :: r => by simp [zvA, zJK, zzS r]
theorem zCT {R : Option Res} : ∀ (l : List (Option Res)), l ≠ [] -> (∀ r ∈ l, r = R) -> zAL l = R
 | [], h, _ => absurd rfl h
 | [r], _, h => h r (by simp)
 | r :: q :: l, _, h => by
   have h1 := zCT (q :: l) (by simp) (fun x hx => h x (by simp [yj.1 hx]))
   have h2 := h r (by simp)
   rw [zAL, h1, h2]
   cases R with
   | none => simp [zHl]
   | some a => simp [zHl, zvz, zzS]
theorem zLp {k : D × Ups -> Option Res} {R : Option Res} {l : List (D × Ups)} (hl : l ≠ []) (h : ∀ r ∈ l, k r = R) : ways k l = R := by
 match l, hl, h with
 | [r], _, h => exact h r (by simp)
 | r :: q :: l, _, h =>
   rw [ways]
   exact zCT _ (by simp) (fun x hx => by obtain ⟨y, hy, rfl⟩ := YC.1 hx; exact h y hy)
theorem zLo {k : D × Ups -> Option Res} {t : Tok k} {R : Option Res} {l : List (D × Ups)} (hl : l ≠ []) (h : ∀ r ∈ l, k r = R) : zQd k t l = R := zLp hl h
@[go_sem] theorem zRt (s : Str) : (s2b s).length = s.length := by simp [s2b]
@[go_sem] theorem zWM {α : Type} (c : α -> List D) (s : Sl α) : zxr (dSl c s) = false := rfl
@[go_sem] theorem zQT (x : zfV) : zAq (zhd x) = false := rfl
theorem zTw {α : Type} {d : D} {m : Mem} {sz a b t3 t4 t5 : Nat} {c : α -> List D} {r : Sl α} (h : zA3 d m [a, b, t3, t4, t5] sz c r) : d = dSl c r ∨ (∃ l g, r = Sl.of l /\ d = .own (.loc a 0) g 0 l.length /\ m (.loc a 0) = some (.rows g false true sz (l.map c))) ∨ (∃ l g, r = Sl.of l /\ d = .own (.loc b 0) g 0 l.length /\ m (.loc b 0) = some (.rows g false true sz (l.map c))) ∨ (∃ l g, r = Sl.of l /\ d = .own (.loc t3 0) g 0 l.length /\ m (.loc t3 0) = some (.rows g false true sz (l.map c))) ∨ (∃ l g, r = Sl.of l /\ d = .own (.loc t4 0) g 0 l.length /\ m (.loc t4 0) = some (.rows g false true sz (l.map c))) ∨ (∃ l g, r = Sl.of l /\ d = .own (.loc t5 0) g 0 l.length /\ m (.loc t5 0) = some (.rows g false true sz (l.map c))) := by
 rcases zFN h with h | ⟨T, hT, l, hl, g, h', k⟩
 · exact .inl h
 · simp only [yj, List.not_mem_nil, or_false] at hT
   rcases hT with rfl | rfl | rfl | rfl | rfl
   · exact .inr (.inl ⟨l, g, hl, h', k⟩)
   · exact .inr (.inr (.inl ⟨l, g, hl, h', k⟩))
   · exact .inr (.inr (.inr (.inl ⟨l, g, hl, h', k⟩)))
   · exact .inr (.inr (.inr (.inr (.inl ⟨l, g, hl, h', k⟩))))
   · exact .inr (.inr (.inr (.inr (.inr (⟨l, g, hl, h', k⟩)))))
end Go.Ev
namespace Go.Ev
open Go
def zzl (rs : List Row) (i j : Nat) : Option D := bnd rs[i]? fun r => r[j]?
abbrev at_ (b o : Nat) : Addr := ⟨b, o, none⟩
inductive zlA (S : Nat -> Prop) (w : World) : Value -> D -> Prop where
 | bool (b : Bool) : zlA S w (.bool b) (.bool b)
 | int (k : IntKind) (n : Int) : zlA S w (.int k n) (.int k n)
 | str (s : List UInt8) : zlA S w (.string ⟨s.toArray⟩) (.str s)
 | nilp : zlA S w (.pointer none) .nilp
 | nilm : zlA S w (.map none) .nilm
 | nilf : zlA S w .nilFunc .nilf
 | nili : zlA S w .nilIface .nili
 | iface (t : TypeId) (v : Value) (d : D) (h : zlA S w v d) : zlA S w (.iface t v) (.iface t d)
 | nilsl : zlA S w (.slice none 0 0) (.sl .nil [])
 | esl (f : Fl) (a : Addr) (hf : f ≠ .nil) : zlA S w (.slice (some a) 0 0) (.sl f [])
 | sl (f : Fl) (rs : List Row) (b o cap sz : Nat) (u : Nat -> Nat -> Value) (hf : f ≠ .nil) (hfull : f = .full -> cap = rs.length) (hcap : rs.length <= cap) (hsz : 0 < sz)
  (hlen : ∀ r ∈ rs, r.length = sz) (hst : rs ≠ [] -> S b) (hc : ∀ i j d, zzl rs i j = some d -> w.cell? (at_ b (o + (i * sz + j))) = some (u i j))
  (hr : ∀ i j d, zzl rs i j = some d -> zlA S w (u i j) d) (hcell : ∀ i j d, zzl rs i j = some d -> cell d = true) : zlA S w (.slice (some (at_ b o)) rs.length cap) (.sl f rs)
def zj8 (w : World) (r : Nat) : Nat :=
 match w.heap[r]? with
 | some (.cells c _ _) => c.size
 | _ => 0
abbrev Loc := Nm -> Nat × Nat
inductive Rep (S : Nat -> Prop) (w : World) (ι : Loc) (m : Mem) : Value -> D -> Prop where
 | ext (v : Value) (d : D) (h : zlA S w v d) : Rep S w ι m v d
 | ptr (b : Nm) (g r o : Nat) (a : Addr) (hb : ∃ k, m b = some k /\ g <= k.gen)
  (ha : ∀ fz cl sz rs, m b = some (.rows g fz cl sz rs) -> a = at_ (ι b).1 ((ι b).2 + (r * sz + o))) : Rep S w ι m (.pointer (some a)) (.ptr b g r o)
 | eptr (row : Row) (o b base : Nat) (u : Nat -> Value) (hst : row ≠ [] -> S b) (hc : ∀ (i : Nat) (d : D), row[i]? = some d -> w.cell? (at_ b (base + i)) = some (u i))
  (hr : ∀ (i : Nat) (d : D), row[i]? = some d -> zlA S w (u i) d) (hcell : ∀ (i : Nat) (d : D), row[i]? = some d -> cell d = true) : Rep S w ι m (.pointer (some (at_ b (base + o)))) (.eptr row o)
 | own (b : Nm) (g off len cap : Nat) (a : Addr) (hb : ∃ k, m b = some k /\ g <= k.gen) (hcap : len <= cap) (hat : a.spot = none)
  (ha : ∀ fz cl sz rs, m b = some (.rows g fz cl sz rs) -> (0 < cap -> a = at_ (ι b).1 ((ι b).2 + off * sz)) /\ (ι b).2 + (off + cap) * sz <= zj8 w (ι b).1) :
  Rep S w ι m (.slice (some a) len cap) (.own b g off len)
 | map (b : Nm) (g r : Nat) (hb : ∃ k, m b = some k /\ g <= k.gen) (ha : ∀ cl es c, m b = some (.map g cl es c) -> r = (ι b).1) : Rep S w ι m (.map (some r)) (.map b g)
 | iter (b : Nm) (g r : Nat) (hb : ∃ k, m b = some k /\ g <= k.gen) (ha : ∀ k, m b = some k -> k.gen = g -> r = (ι b).1) : Rep S w ι m (.pointer (some (at_ r 0))) (.iter b g)
 | fn (f : Fn) (vf vc : Array Value) (fi ca : List D) (l1 : vf.size = fi.length) (l2 : vc.size = ca.length)
  (h1 : ∀ (i : Nat) (v : Value) (d : D), vf[i]? = some v -> fi[i]? = some d -> Rep S w ι m v d) (h2 : ∀ (i : Nat) (v : Value) (d : D), vc[i]? = some v -> ca[i]? = some d -> Rep S w ι m v d) : Rep S w ι m (.func f vf vc) (.fn f fi ca)
 | iface (t : TypeId) (v : Value) (d : D) (h : Rep S w ι m v d) : Rep S w ι m (.iface t v) (.iface t d)
 | agg (cs : Array Value) (ds : List D) (l : cs.size = ds.length) (h : ∀ (i : Nat) (v : Value) (d : D), cs[i]? = some v -> ds[i]? = some d -> Rep S w ι m v d) (hcell : ∀ d ∈ ds, cell d = true) : Rep S w ι m (.agg cs) (.agg ds)
 | tup (cs : Array Value) (ds : List D) (l : cs.size = ds.length) (h : ∀ (i : Nat) (v : Value) (d : D), cs[i]? = some v -> ds[i]? = some d -> Rep S w ι m v d) : Rep S w ι m (.tuple cs) (.tup ds)
 | unk (v : Value) : Rep S w ι m v .unk
def ziZ : Blk -> Blk -> Prop
 | .rows g _ _ sz _, .rows g' _ _ sz' _ => g = g' /\ sz = sz'
 | .map g _ _ _, .map g' _ _ _ => g = g'
 | .siter g _ _, .siter g' _ _ => g = g'
 | .miter g _ _ _ _, .miter g' _ _ _ _ => g = g'
 | _, _ => False
theorem ziZ.refl (k : Blk) : ziZ k k := by cases k <;> simp [ziZ]
theorem ziZ.gen {k k' : Blk} (h : ziZ k k') : k.gen = k'.gen := by
 cases k <;> cases k' <;> simp_all [ziZ, Blk.gen]
theorem ziZ.trans {a b c : Blk} (h : ziZ a b) (k : ziZ b c) : ziZ a c := by
 cases a <;> cases b <;> simp_all [ziZ] <;> cases c <;> simp_all
structure Ext (S : Nat -> Prop) (w : World) (ι : Loc) (m : Mem) (S' : Nat -> Prop) (w' : World) (ι' : Loc) (m' : Mem) : Prop where
 st : ∀ r, S r -> S' r
 old : ∀ r, S r -> w'.heap[r]? = w.heap[r]?
 blk : ∀ b k, m b = some k -> ∃ k', m' b = some k' /\ (k.gen < k'.gen ∨ (ziZ k k' /\ ι' b = ι b /\ zj8 w (ι b).1 <= zj8 w' (ι b).1))
theorem Ext.refl (S : Nat -> Prop) (w : World) (ι : Loc) (m : Mem) : Ext S w ι m S w ι m :=
 ⟨fun _ h => h, fun _ _ => rfl, fun _ k h => ⟨k, h, .inr ⟨ziZ.refl k, rfl, yP _⟩⟩⟩
theorem Ext.trans {S S' S'' : Nat -> Prop} {w w' w'' : World} {ι ι' ι'' : Loc} {m m' m'' : Mem} (h : Ext S w ι m S' w' ι' m') (k : Ext S' w' ι' m' S'' w'' ι'' m'') : Ext S w ι m S'' w'' ι'' m'' := by
 refine ⟨fun r hr => k.st r (h.st r hr), fun r hr => (k.old r (h.st r hr)).trans (h.old r hr), fun b x hx => ?_⟩
 obtain ⟨y, hy, hxy⟩ := h.blk b x hx
 obtain ⟨z, hz, hyz⟩ := k.blk b y hy
 refine ⟨z, hz, ?_⟩
 rcases hxy with hxy | ⟨s1, i1, b1⟩
 · rcases hyz with hyz | ⟨s2, _, _⟩
   · exact .inl (Nat.lt_trans hxy hyz)
   · exact .inl (s2.gen ▸ hxy)
 · rcases hyz with hyz | ⟨s2, i2, b2⟩
   · exact .inl (s1.gen ▸ hyz)
   · rw [i1] at i2 b2
     exact .inr ⟨s1.trans s2, i2, Nat.le_trans b1 b2⟩
theorem zwa {w w' : World} {b o : Nat} (h : w'.heap[b]? = w.heap[b]?) : w'.cell? (at_ b o) = w.cell? (at_ b o) := World.cell?_of_block (w := w) h
theorem zQQ {rs : List Row} {i j : Nat} {d : D} (h : zzl rs i j = some d) : rs ≠ [] := by
 intro e; subst e; simp [zzl, bnd] at h
theorem zKr {α : Type} {l : List α} {i : Nat} {d : α} (h : l[i]? = some d) : l ≠ [] := by
 intro e; subst e; simp at h
theorem zlA.mono {S S' : Nat -> Prop} {w w' : World} {v : Value} {d : D} (h : zlA S w v d) (hS : ∀ r, S r -> S' r) (hw : ∀ r, S r -> w'.heap[r]? = w.heap[r]?) : zlA S' w' v d := by
 induction h with
 | bool b => exact .bool b
 | int k n => exact .int k n
 | str s => exact .str s
 | nilp => exact .nilp
 | nilm => exact .nilm
 | nilf => exact .nilf
 | nili => exact .nili
 | iface t v d _ ih => exact .iface t v d ih
 | nilsl => exact .nilsl
 | esl f a hf => exact .esl f a hf
 | sl f rs b o cap sz u hf hfull hcap hsz hlen hst hc _ hcell ih =>
   exact .sl f rs b o cap sz u hf hfull hcap hsz hlen (fun h => hS _ (hst h)) (fun i j d h => by rw [zwa (hw _ (hst (zQQ h)))]; exact hc i j d h) ih hcell
theorem Rep.ext' {S S' : Nat -> Prop} {w w' : World} {ι ι' : Loc} {m m' : Mem} {v : Value} {d : D} (h : Rep S w ι m v d) (e : Ext S w ι m S' w' ι' m') : Rep S' w' ι' m' v d := by
 have live : ∀ b g, (∃ k, m b = some k /\ g <= k.gen) -> ∃ k', m' b = some k' /\ g <= k'.gen := by
  rintro b g ⟨k, hk, hg⟩
  obtain ⟨k', hk', hh⟩ := e.blk b k hk
  refine ⟨k', hk', ?_⟩
  rcases hh with hh | ⟨s, _, _⟩
  · omega
  · have := s.gen; omega
 have back : ∀ b g k', (∃ k, m b = some k /\ g <= k.gen) -> m' b = some k' -> k'.gen = g -> ∃ k, m b = some k /\ ziZ k k' /\ ι' b = ι b /\ zj8 w (ι b).1 <= zj8 w' (ι b).1 := by
  rintro b g k' ⟨k, hk, hg⟩ hk' hg'
  obtain ⟨k2, hk2, hh⟩ := e.blk b k hk
  rw [hk'] at hk2
  obtain rfl := yO hk2
  rcases hh with hh | ⟨s, i, z⟩
  · omega
  · exact ⟨k, hk, s, i, z⟩
 induction h with
 | ext v d h => exact .ext v d (h.mono e.st e.old)
 | ptr b g r o a hb ha =>
   refine .ptr b g r o a (live b g hb) fun fz cl sz rs hm => ?_
   obtain ⟨k, hk, s, i, _⟩ := back b g _ hb hm rfl
   cases k with
   | rows g2 fz2 cl2 sz2 rs2 =>
     simp only [ziZ] at s
     obtain ⟨rfl, rfl⟩ := s
     rw [i]; exact ha _ _ _ _ hk
   | map _ _ _ _ => exact s.elim
   | siter _ _ _ => exact s.elim
   | miter _ _ _ _ _ => exact s.elim
 | eptr row o b base u hst hc hr hcell =>
   exact .eptr row o b base u (fun h => e.st _ (hst h)) (fun i d h => by rw [zwa (e.old _ (hst (zKr h)))]; exact hc i d h) (fun i d h => (hr i d h).mono e.st e.old) hcell
 | own b g off len cap a hb hcap hat ha =>
   refine .own b g off len cap a (live b g hb) hcap hat fun fz cl sz rs hm => ?_
   obtain ⟨k, hk, s, i, z⟩ := back b g _ hb hm rfl
   cases k with
   | rows g2 fz2 cl2 sz2 rs2 =>
     simp only [ziZ] at s
     obtain ⟨rfl, rfl⟩ := s
     rw [i]
     obtain ⟨h1, h2⟩ := ha _ _ _ _ hk
     exact ⟨h1, Nat.le_trans h2 z⟩
   | map _ _ _ _ => exact s.elim
   | siter _ _ _ => exact s.elim
   | miter _ _ _ _ _ => exact s.elim
 | map b g r hb ha =>
   refine .map b g r (live b g hb) fun cl es c hm => ?_
   obtain ⟨k, hk, s, i, _⟩ := back b g _ hb hm rfl
   cases k with
   | map g2 cl2 es2 c2 =>
     simp only [ziZ] at s
     subst s
     rw [i]; exact ha _ _ _ hk
   | rows _ _ _ _ _ => exact s.elim
   | siter _ _ _ => exact s.elim
   | miter _ _ _ _ _ => exact s.elim
 | iter b g r hb ha =>
   refine .iter b g r (live b g hb) fun k' hm hg => ?_
   obtain ⟨k, hk, s, i, _⟩ := back b g _ hb hm hg
   rw [i]; exact ha k hk (s.gen.trans hg)
 | fn f vf vc fi ca l1 l2 _ _ ih1 ih2 => exact .fn f vf vc fi ca l1 l2 ih1 ih2
 | iface t v d _ ih => exact .iface t v d ih
 | agg cs ds l _ hcell ih => exact .agg cs ds l ih hcell
 | tup cs ds l _ ih => exact .tup cs ds l ih
 | unk v => exact .unk v
def zhD : Blk -> Bool
 | .rows _ fz _ _ _ => fz
 | .map _ _ _ _ => false
 | .siter _ _ _ => false
 | .miter _ _ _ _ _ => false
structure zu7 (S : Nat -> Prop) (w : World) (ι : Loc) (m : Mem) (cl : Bool) (e : MapEntry) (d : Ent) : Prop where
 key : zlA S w e.key d.key
 val : Rep S w ι m e.val d.val
 born : e.born = d.born
 still : cl = true -> ids d.val = []
def zrS (S : Nat -> Prop) (w : World) (ι : Loc) (m : Mem) (r o : Nat) : Blk -> Prop
 | .rows _ fz cl sz rs => ∃ (cur : Array Value) (e : TypeId) (lo hi : Nat), w.heap[r]? = some (.cells cur e (lo, hi)) /\ (fz = false -> ∀ x, x < cur.size -> ¬(lo <= x /\ x < hi)) /\ 0 < sz /\
  (∀ row ∈ rs, row.length = sz) /\ o + rs.length * sz <= cur.size /\
  ∀ i j d, zzl rs i j = some d -> ∃ u, cur[o + (i * sz + j)]? = some u /\ Rep S w ι m u d /\ cell d = true /\ (cl = true -> zlA S w u d)
 | .map _ cl es c => ∃ ents : Array MapEntry, w.heap[r]? = some (.map ents c) /\ ents.size = es.length /\ ∀ (i : Nat) (e : MapEntry) (d : Ent), ents[i]? = some e -> es[i]? = some d -> zu7 S w ι m cl e d
 | .siter _ s pos => w.heap[r]? = some (.stringIter ⟨s.toArray⟩ pos)
 | .miter _ mm since seen last => ∃ x, w.heap[r]? = some (.mapIter x since seen.toArray last) /\ (mm = none -> x = none) /\ ∀ q, mm = some q -> ∃ y, x = some y /\ Rep S w ι m (.map (some y)) (.map q.1 q.2)
theorem zrS.lt {S : Nat -> Prop} {w : World} {ι : Loc} {m : Mem} {r o : Nat} {k : Blk} (h : zrS S w ι m r o k) : r < w.heap.size := by
 have : ∃ x, w.heap[r]? = some x := by
  cases k with
  | rows g fz cl sz rs => obtain ⟨cur, e, lo, hi, h1, _⟩ := h; exact ⟨_, h1⟩
  | map g cl es c => obtain ⟨ents, h1, _⟩ := h; exact ⟨_, h1⟩
  | siter g s p => exact ⟨_, h⟩
  | miter g mm since seen last => obtain ⟨x, h1, _⟩ := h; exact ⟨_, h1⟩
 obtain ⟨x, hx⟩ := this
 rcases Nat.lt_or_ge r w.heap.size with h' | h'
 · exact h'
 · simp [Array.getElem?_eq_none h'] at hx
theorem zrS.mono {S S' : Nat -> Prop} {w w' : World} {ι ι' : Loc} {m m' : Mem} {r o : Nat} {k : Blk} (h : zrS S w ι m r o k) (e : Ext S w ι m S' w' ι' m') (hw : w'.heap[r]? = w.heap[r]?) :
 zrS S' w' ι' m' r o k := by
 cases k with
 | rows g fz cl sz rs =>
   obtain ⟨cur, t, lo, hi, h1, h2, h3, h4, h5, h6⟩ := h
   refine ⟨cur, t, lo, hi, hw.trans h1, h2, h3, h4, h5, fun i j d hd => ?_⟩
   obtain ⟨u, a1, a2, a3, a4⟩ := h6 i j d hd
   exact ⟨u, a1, a2.ext' e, a3, fun hc => (a4 hc).mono e.st e.old⟩
 | map g cl es c =>
   obtain ⟨ents, h1, h2, h3⟩ := h
   refine ⟨ents, hw.trans h1, h2, fun i x d hx hd => ?_⟩
   obtain ⟨k1, k2, k3, k4⟩ := h3 i x d hx hd
   exact ⟨k1.mono e.st e.old, k2.ext' e, k3, k4⟩
 | siter g s p => exact hw.trans h
 | miter g mm since seen last =>
   obtain ⟨x, h1, h2, h3⟩ := h
   refine ⟨x, hw.trans h1, h2, fun q hq => ?_⟩
   obtain ⟨y, h4, h5⟩ := h3 q hq
   exact ⟨y, h4, h5.ext' e⟩
structure Sim (S : Nat -> Prop) (w : World) (ι : Loc) (m : Mem) : Prop where
 own : ∀ b k, m b = some k -> zrS S w ι m (ι b).1 (ι b).2 k
 inj : ∀ b b', m b ≠ none -> m b' ≠ none -> (ι b).1 = (ι b').1 -> b = b'
 apart : ∀ b k, m b = some k -> zhD k = false -> ¬ S (ι b).1
 fz : ∀ b k, m b = some k -> zhD k = true -> S (ι b).1
 lt : ∀ r, S r -> r < w.heap.size
structure Pg (S : Nat -> Prop) (w : World) (ι : Loc) (m : Mem) (S' : Nat -> Prop) (w' : World) (ι' : Loc) (m' : Mem) : Prop where
 ext : Ext S w ι m S' w' ι' m'
 os : w'.os = w.os
 tape : w'.tape = w.tape
 output : w'.output = w.output
 size : w.heap.size <= w'.heap.size
 keep : ∀ r, r < w.heap.size -> (∀ b k, m b = some k -> zhD k = false -> (ι b).1 ≠ r) -> w'.heap[r]? = w.heap[r]?
 stB : ∀ r, S' r -> S r ∨ w.heap.size <= r ∨ ∃ b k, m b = some k /\ zhD k = false /\ (ι b).1 = r
 img : ∀ b k', m' b = some k' -> zhD k' = false -> w.heap.size <= (ι' b).1 ∨ ∃ b0 k0, m b0 = some k0 /\ zhD k0 = false /\ (ι b0).1 = (ι' b).1
 any : ∀ b k', m' b = some k' -> w.heap.size <= (ι' b).1 ∨ ∃ b0 k0, m b0 = some k0 /\ (ι b0).1 = (ι' b).1
theorem Pg.refl (S : Nat -> Prop) (w : World) (ι : Loc) (m : Mem) : Pg S w ι m S w ι m :=
 ⟨Ext.refl _ _ _ _, rfl, rfl, rfl, yP _, fun _ _ _ => rfl, fun _ h => .inl h, fun b k h hf => .inr ⟨b, k, h, hf, rfl⟩, fun b k h => .inr ⟨b, k, h, rfl⟩⟩
theorem Pg.trans {S S' S'' : Nat -> Prop} {w w' w'' : World} {ι ι' ι'' : Loc} {m m' m'' : Mem} (h : Pg S w ι m S' w' ι' m') (k : Pg S' w' ι' m' S'' w'' ι'' m'') : Pg S w ι m S'' w'' ι'' m'' := by
 refine ⟨h.ext.trans k.ext, k.os.trans h.os, k.tape.trans h.tape, k.output.trans h.output, Nat.le_trans h.size k.size, fun r hr hn => ?_, fun r hr => ?_, fun b x hx hf => ?_, fun b x hx => ?_⟩
 · rw [k.keep r (Nat.lt_of_lt_of_le hr h.size) (fun b x hx hf e => ?_), h.keep r hr hn]
   rcases h.img b x hx hf with h1 | ⟨b0, k0, h1, h2, h3⟩
   · omega
   · exact hn b0 k0 h1 h2 (h3.trans e)
 · rcases k.stB r hr with h1 | h1 | ⟨b, x, hx, hf, e⟩
   · exact h.stB r h1
   · exact .inr (.inl (Nat.le_trans h.size h1))
   · rcases h.img b x hx hf with h2 | ⟨b0, k0, h2, h3, h4⟩
     · exact .inr (.inl (e ▸ h2))
     · exact .inr (.inr ⟨b0, k0, h2, h3, h4.trans e⟩)
 · rcases k.img b x hx hf with h1 | ⟨b1, k1, h1, h2, h3⟩
   · exact .inl (Nat.le_trans h.size h1)
   · rcases h.img b1 k1 h1 h2 with h4 | ⟨b0, k0, h4, h5, h6⟩
     · exact .inl (h3 ▸ h4)
     · exact .inr ⟨b0, k0, h4, h5, h6.trans h3⟩
 · rcases k.any b x hx with h1 | ⟨b1, k1, h1, h3⟩
   · exact .inl (Nat.le_trans h.size h1)
   · rcases h.any b1 k1 h1 with h4 | ⟨b0, k0, h4, h6⟩
     · exact .inl (h3 ▸ h4)
     · exact .inr ⟨b0, k0, h4, h6.trans h3⟩
def Loc.upd (ι : Loc) (b : Nm) (p : Nat × Nat) : Loc := fun x => if x = b then p else ι x
@[simp] theorem Loc.upd_same (ι : Loc) (b : Nm) (p : Nat × Nat) : (ι.upd b p) b = p := by simp [Loc.upd]
theorem Loc.upd_ne (ι : Loc) {b c : Nm} (p : Nat × Nat) (h : c ≠ b) : (ι.upd b p) c = ι c := by simp [Loc.upd, h]
@[simp] theorem Mem.upd_same (m : Mem) (b : Nm) (k : Blk) : (m.upd b k) b = some k := by simp [Mem.upd]
theorem Mem.upd_ne (m : Mem) {b c : Nm} (k : Blk) (h : c ≠ b) : (m.upd b k) c = m c := by simp [Mem.upd, h]
theorem zto {w w' : World} {r : Nat} (h : w'.heap[r]? = w.heap[r]?) : zj8 w' r = zj8 w r := by simp [zj8, h]
theorem Mem.upd_some {m : Mem} {b c : Nm} {k k' : Blk} (h : (m.upd b k) c = some k') : (c = b /\ k' = k) ∨ (c ≠ b /\ m c = some k') := by
 by_cases e : c = b
 · subst e; rw [Mem.upd_same] at h; exact .inl ⟨rfl, (yO h).symm⟩
 · rw [Mem.upd_ne _ _ e] at h; exact .inr ⟨e, h⟩
theorem zp6 {S : Nat -> Prop} {w w' : World} {ι : Loc} {m : Mem} (hs : Sim S w ι m) (b : Nm) (k' : Blk) (r' o' : Nat)
 (hos : w'.os = w.os) (htape : w'.tape = w.tape) (hout : w'.output = w.output) (hsz : w.heap.size <= w'.heap.size)
 (hkeep : ∀ r, r < w.heap.size -> r ≠ r' -> w'.heap[r]? = w.heap[r]?)
 (hr : (w.heap.size <= r') ∨ (∃ k, m b = some k /\ zhD k = false /\ r' = (ι b).1))
 (hgen : ∀ k, m b = some k -> k.gen < k'.gen ∨ (ziZ k k' /\ (r', o') = ι b /\ zj8 w r' <= zj8 w' r'))
 (hf : zhD k' = false)
 (hok : Ext S w ι m S w' (ι.upd b (r', o')) (m.upd b k') -> zrS S w' (ι.upd b (r', o')) (m.upd b k') r' o' k') :
 Sim S w' (ι.upd b (r', o')) (m.upd b k') /\ Pg S w ι m S w' (ι.upd b (r', o')) (m.upd b k') := by
 have hSr : ∀ r, S r -> r ≠ r' := by
  rintro r h rfl
  rcases hr with h1 | ⟨k, h1, h2, h3⟩
  · have := hs.lt _ h; omega
  · exact hs.apart b k h1 h2 (h3 ▸ h)
 have hother : ∀ c k, m c = some k -> c ≠ b -> (ι c).1 ≠ r' := by
  intro c k hc hne e
  rcases hr with h1 | ⟨k2, h1, h2, h3⟩
  · have := (hs.own c k hc).lt; omega
  · exact hne (hs.inj c b (by simp [hc]) (by simp [h1]) (e.trans h3))
 have hext : Ext S w ι m S w' (ι.upd b (r', o')) (m.upd b k') := by
  refine ⟨fun _ h => h, fun r h => hkeep r (hs.lt r h) (hSr r h), fun c k hc => ?_⟩
  by_cases e : c = b
  · subst e
    refine ⟨k', Mem.upd_same _ _ _, ?_⟩
    rcases hgen k hc with h1 | ⟨h1, h2, h3⟩
    · exact .inl h1
    · refine .inr ⟨h1, by rw [Loc.upd_same]; exact h2, ?_⟩
      rw [<- h2]; exact h3
  · refine ⟨k, by rw [Mem.upd_ne _ _ e]; exact hc, .inr ⟨ziZ.refl k, Loc.upd_ne _ _ e, ?_⟩⟩
    exact Nat.le_of_eq (zto (hkeep _ (hs.own c k hc).lt (hother c k hc e))).symm
 refine ⟨⟨fun c k hc => ?_, fun c c' hc hc' e => ?_, fun c k hc hk => ?_, fun c k hc hk => ?_, fun r h => Nat.lt_of_lt_of_le (hs.lt r h) hsz⟩, ⟨hext, hos, htape, hout, hsz, fun r h hn => ?_, fun r h => .inl h, fun c k hc hk => ?_, fun c k hc => ?_⟩⟩
 · rcases Mem.upd_some hc with ⟨rfl, rfl⟩ | ⟨e, hc⟩
   · rw [Loc.upd_same]; exact hok hext
   · rw [Loc.upd_ne _ _ e]
     exact (hs.own c k hc).mono hext (hkeep _ (hs.own c k hc).lt (hother c k hc e))
 · by_cases e1 : c = b
   · by_cases e2 : c' = b
     · exact e1.trans e2.symm
     · exfalso
       subst e1
       rw [Loc.upd_same, Loc.upd_ne _ _ e2] at e
       rw [Mem.upd_ne _ _ e2] at hc'
       obtain ⟨k, hk⟩ := Option.ne_none_iff_exists'.1 hc'
       exact hother c' k hk e2 e.symm
   · by_cases e2 : c' = b
     · exfalso
       subst e2
       rw [Loc.upd_same, Loc.upd_ne _ _ e1] at e
       rw [Mem.upd_ne _ _ e1] at hc
       obtain ⟨k, hk⟩ := Option.ne_none_iff_exists'.1 hc
       exact hother c k hk e1 e
     · rw [Loc.upd_ne _ _ e1, Loc.upd_ne _ _ e2] at e
       rw [Mem.upd_ne _ _ e1] at hc
       rw [Mem.upd_ne _ _ e2] at hc'
       exact hs.inj c c' hc hc' e
 · rcases Mem.upd_some hc with ⟨rfl, rfl⟩ | ⟨e, hc⟩
   · rw [Loc.upd_same]; exact fun h => hSr _ h rfl
   · rw [Loc.upd_ne _ _ e]; exact hs.apart c k hc hk
 · rcases Mem.upd_some hc with ⟨rfl, rfl⟩ | ⟨e, hc⟩
   · rw [hf] at hk; cases hk
   · rw [Loc.upd_ne _ _ e]; exact hs.fz c k hc hk
 · refine hkeep r h ?_
   rintro rfl
   rcases hr with h1 | ⟨k, h1, h2, h3⟩
   · omega
   · exact hn b k h1 h2 h3.symm
 · rcases Mem.upd_some hc with ⟨rfl, rfl⟩ | ⟨e, hc⟩
   · rw [Loc.upd_same]
     rcases hr with h1 | ⟨k0, h1, h2, h3⟩
     · exact .inl h1
     · exact .inr ⟨c, k0, h1, h2, h3.symm⟩
   · rw [Loc.upd_ne _ _ e]; exact .inr ⟨c, k, hc, hk, rfl⟩
 · rcases Mem.upd_some hc with ⟨rfl, rfl⟩ | ⟨e, hc⟩
   · rw [Loc.upd_same]
     rcases hr with h1 | ⟨k0, h1, h2, h3⟩
     · exact .inl h1
     · exact .inr ⟨c, k0, h1, h3.symm⟩
   · rw [Loc.upd_ne _ _ e]; exact .inr ⟨c, k, hc, rfl⟩
theorem zHf {S : Nat -> Prop} {w : World} {ι : Loc} {m : Mem} (hs : Sim S w ι m) (b : Nm) (g : Nat) (fz cl : Bool) (sz : Nat) (rs : List Row) (hm : m b = some (.rows g fz cl sz rs)) :
 Sim (fun r => S r ∨ r = (ι b).1) w ι (m.upd b (.rows g true cl sz rs)) /\ Pg S w ι m (fun r => S r ∨ r = (ι b).1) w ι (m.upd b (.rows g true cl sz rs)) := by
 have hext : Ext S w ι m (fun r => S r ∨ r = (ι b).1) w ι (m.upd b (.rows g true cl sz rs)) := by
  refine ⟨fun _ h => .inl h, fun _ _ => rfl, fun c k hc => ?_⟩
  by_cases e : c = b
  · subst e
    rw [hm] at hc
    obtain rfl := yO hc
    exact ⟨_, Mem.upd_same _ _ _, .inr ⟨⟨rfl, rfl⟩, rfl, yP _⟩⟩
  · exact ⟨k, by rw [Mem.upd_ne _ _ e]; exact hc, .inr ⟨ziZ.refl k, rfl, yP _⟩⟩
 have hnn : ∀ c, (m.upd b (.rows g true cl sz rs)) c ≠ none -> m c ≠ none := by
  intro c hc
  by_cases e : c = b
  · subst e; simp [hm]
  · rwa [Mem.upd_ne _ _ e] at hc
 refine ⟨⟨fun c k hc => ?_, fun c c' hc hc' e => hs.inj c c' (hnn c hc) (hnn c' hc') e, fun c k hc hk => ?_, fun c k hc hk => ?_, ?_⟩,
  ⟨hext, rfl, rfl, rfl, yP _, fun _ _ _ => rfl, fun r h => ?_, fun c k hc hk => ?_, fun c k hc => ?_⟩⟩
 · rcases Mem.upd_some hc with ⟨rfl, rfl⟩ | ⟨e, hc⟩
   · obtain ⟨cur, t, lo, hi, h1, _, h3, h4, h5, h6⟩ := (hs.own _ _ hm).mono hext rfl
     exact ⟨cur, t, lo, hi, h1, (fun h => by cases h), h3, h4, h5, h6⟩
   · exact (hs.own c k hc).mono hext rfl
 · rcases Mem.upd_some hc with ⟨rfl, rfl⟩ | ⟨e, hc⟩
   · cases hk
   · rintro (h | h)
     · exact hs.apart c k hc hk h
     · exact e (hs.inj c b (by simp [hc]) (by simp [hm]) h)
 · rcases Mem.upd_some hc with ⟨rfl, rfl⟩ | ⟨e, hc⟩
   · exact .inr rfl
   · exact .inl (hs.fz c k hc hk)
 · rintro r (h | rfl)
   · exact hs.lt r h
   · exact (hs.own _ _ hm).lt
 · rcases h with h | rfl
   · exact .inl h
   · cases fz with
     | true => exact .inl (hs.fz b _ hm rfl)
     | false => exact .inr (.inr ⟨b, _, hm, rfl, rfl⟩)
 · rcases Mem.upd_some hc with ⟨rfl, rfl⟩ | ⟨e, hc⟩
   · cases hk
   · exact .inr ⟨c, k, hc, hk, rfl⟩
 · rcases Mem.upd_some hc with ⟨rfl, rfl⟩ | ⟨e, hc⟩
   · exact .inr ⟨c, _, hm, rfl⟩
   · exact .inr ⟨c, k, hc, rfl⟩
end Go.Ev
