/- Part of a proof. -/
import Derived.Laws.StructEq
import Derived.Attr
import Derived.Below
import Derived.Test.YtaadpbhondmahaaGreatDoorT1
set_option linter.all false
namespace Go.Ev
def znT : Value → Option D
 | .bool b => some (.bool b)
 | .int k n => some (.int k n)
 | .string s => some (.str s.data.toList)
 | .pointer none => some .nilp
 | .slice none 0 0 => some (.sl .nil [])
 | .map none => some .nilm
 | .nilFunc => some .nilf
 | .nilIface => some .nili
 | _ => none
def zmB : List Value → Option (List D)
 | [] => some []
 | v :: r => bnd (znT v) fun d => bnd (zmB r) fun l => some (d :: l)
def ofV : Value → Option D
 | .agg cs => bnd (zmB cs.toList) fun l => some (.agg l)
 | .bool b => some (.bool b)
 | .int k n => some (.int k n)
 | .string s => some (.str s.data.toList)
 | .pointer none => some .nilp
 | .slice none 0 0 => some (.sl .nil [])
 | .map none => some .nilm
 | .nilFunc => some .nilf
 | .nilIface => some .nili
 | _ => none
def zGD : Option D → D
 | some d => d
 | none => .unk
inductive TK where
 | int (k : IntKind) | bool | str | ptr | slice (e : TypeId) | array (n : Nat) (e : TypeId) | map (k e : TypeId)
 | struct (fs : List (TypeId × Nat)) | func | iface | tuple | other
 deriving Inhabited
structure TI where
 kind : TK
 size : Nat
 bytes : Nat
 zero : List D
 deriving Inhabited
def zhW : TypeDesc → TK
 | .int k => .int k
 | .bool => .bool
 | .string => .str
 | .pointer _ => .ptr
 | .slice e => .slice e
 | .array n e => .array n e
 | .map k e => .map k e
 | .struct fs => .struct (fs.toList.map fun f => (f.type, f.offset))
 | .func _ _ _ => .func
 | .interface _ => .iface
 | .tuple _ => .tuple
 | _ => .other
def TK.agg : TK → Bool
 | .struct _ | .array _ _ => true
 | _ => false
def zGj (P : Program) (t : TypeId) : Option TI :=
 match P.info? t, P.underlying t with
 | some i, some u =>
   match i.zero with
   | some z => (zmB z.cells.toList).map fun zc => ⟨zhW u, i.size, i.bytes, zc⟩
   | none => none
 | _, _ => none
def zcG (P : Program) (t : TypeId) : Option TI := if t < P.types.size then zGj P t else none
def kOf (P : Program) (t : TypeId) : Option TK := (zcG P t).map TI.kind
def zvT (P : Program) (t : TypeId) : Bool :=
 match P.underlying t with
 | some (.struct fs) => !P.stoodInHeld t && !P.eqGuardType P.depth t && fs.toList.zipIdx.all (fun p => p.1.name != "_" && p.1.offset == p.2)
 | _ => false
def opd (e : Env) : Operand → D
 | .tmp t => e t
 | .const v => zGD (ofV v)
 | .global _ => .unk
 | .func f => .fn (.func f) [] []
def cellsOf : D → List D
 | .agg cs => cs
 | .bool b => [.bool b]
 | .int k n => [.int k n]
 | .str s => [.str s]
 | .nilp => [.nilp]
 | .ptr b g r o => [.ptr b g r o]
 | .eptr r o => [.eptr r o]
 | .sl f r => [.sl f r]
 | .own b g o l => [.own b g o l]
 | .nilm => [.nilm]
 | .map b g => [.map b g]
 | .iter b g => [.iter b g]
 | .fn f a b => [.fn f a b]
 | .nilf => [.nilf]
 | .iface t v => [.iface t v]
 | .nili => [.nili]
 | .tup l => [.tup l]
 | .unk => [.unk]
def only : List D → Option D
 | [d] => some d
 | _ => none
def zAR (k : TK) (cs : List D) : Option D := if k.agg then some (.agg cs) else only cs
def zby : List D → Bool
 | [] => true
 | d :: r => cell d && zby r
def zaJ : List D → Bool
 | [] => true
 | d :: r => still d && zaJ r
def zgg : List Row → Bool
 | [] => true
 | d :: r => zaJ d && zgg r
def cut {α : Type} (l : List α) (off len : Nat) : List α := if off = 0 ∧ len = l.length then l else (l.drop off).take len
def put {α : Type} (l : List α) (off : Nat) (new : List α) : List α := l.take off ++ (new ++ l.drop (off + new.length))
def part (ti : TI) (cs : List D) (off : Nat) : Option D :=
 bnd (ok (decide ((cut cs off ti.size).length = ti.size))) fun _ => zAR ti.kind (cut cs off ti.size)
def zuY : D → D → TK → Option Bool
 | .bool a, .bool b, .bool => some (a == b)
 | .int j a, .int k b, .int _ => if j = k then some (a == b) else none
 | .str a, .str b, .str => some (a == b)
 | _, _, _ => none
def zfc (P : Program) : List (TypeId × Nat) → List D → List D → Option Bool
 | [], [], [] => some true
 | f :: fs, x :: xs, y :: ys => bnd (bnd (kOf P f.1) (zuY x y)) fun a => bnd (zfc P fs xs ys) fun b => some (a && b)
 | _, _, _ => none
def zNH (P : Program) (xs ys : List D) : TK → Option Bool
 | .struct fs => zfc P fs xs ys
 | _ => none
def zro (c : Bool) : D → D → TK → Option Bool
 | .bool a, .bool b, .bool => some (a == b)
 | .nilp, .nilp, .ptr => some true
 | .ptr _ _ _ _, .nilp, .ptr => some false
 | .nilp, .ptr _ _ _ _, .ptr => some false
 | .sl .nil _, .sl .nil _, .slice _ => some true
 | .sl .nil _, .sl .any _, .slice _ => some false
 | .sl .nil _, .sl .full _, .slice _ => some false
 | .sl .any _, .sl .nil _, .slice _ => some false
 | .sl .full _, .sl .nil _, .slice _ => some false
 | .own _ _ _ _, .sl .nil _, .slice _ => some false
 | .nili, .nili, .iface => if c then some true else none
 | .iface _ _, .nili, .iface => some false
 | .nili, .iface _ _, .iface => some false
 | _, _, _ => none
def deq (P : Program) (t : TypeId) (c : Bool) : D → D → Option Bool
 | .agg xs, .agg ys => bnd (ok (zvT P t)) fun _ => bnd (kOf P t) (zNH P xs ys)
 | x, y => bnd (kOf P t) (zro c x y)
def zfe : List UInt8 → List UInt8 → Bool
 | _, [] => false
 | [], _ :: _ => true
 | a :: x, b :: y => a < b || (a == b && zfe x y)
def zv3 (k : IntKind) (x y : Int) : BinOp → Option D
 | .add => some (.int k (k.wrap (x + y)))
 | .sub => some (.int k (k.wrap (x - y)))
 | .mul => some (.int k (k.wrap (x * y)))
 | .quo => if y = 0 then none else some (.int k (k.wrap (x.tdiv y)))
 | .rem => if y = 0 then none else some (.int k (x.tmod y))
 | .and => some (.int k (k.wrap (BitVec.ofInt k.bits x &&& BitVec.ofInt k.bits y).toNat))
 | .or => some (.int k (k.wrap (BitVec.ofInt k.bits x ||| BitVec.ofInt k.bits y).toNat))
 | .xor => some (.int k (k.wrap (BitVec.ofInt k.bits x ^^^ BitVec.ofInt k.bits y).toNat))
 | .andNot => some (.int k (k.wrap (BitVec.ofInt k.bits x &&& ~~~(BitVec.ofInt k.bits y)).toNat))
 | .eql => some (.bool (x == y))
 | .neq => some (.bool (x != y))
 | .lss => some (.bool (decide (x < y)))
 | .leq => some (.bool (decide (x ≤ y)))
 | .gtr => some (.bool (decide (x > y)))
 | .geq => some (.bool (decide (x ≥ y)))
 | .shl => none
 | .shr => none
def room : Nat := 140737488355328
def zDX (x y : List UInt8) : BinOp → Option D
 | .add => bnd (ok (decide (x.length + y.length ≤ room))) fun _ => some (.str (x ++ y))
 | .eql => some (.bool (x == y))
 | .neq => some (.bool !(x == y))
 | .lss => some (.bool (zfe x y))
 | .leq => some (.bool (zfe x y || x == y))
 | .gtr => some (.bool !(zfe x y || x == y))
 | .geq => some (.bool !(zfe x y))
 | _ => none
def zl3 (k k' : IntKind) (x y : Int) : BinOp → Option D
 | .shl => if y < 0 then none else some (.int k (k.wrap (x * 2 ^ min y.toNat k.bits)))
 | .shr => if y < 0 then none else some (.int k (x.fdiv (2 ^ min y.toNat k.bits)))
 | op => if k = k' then zv3 k x y op else none
def zxV (P : Program) (t : TypeId) (c : Bool) (x y : D) : BinOp → Option D
 | .eql => bnd (deq P t c x y) fun b => some (.bool b)
 | .neq => bnd (deq P t c x y) fun b => some (.bool !b)
 | _ => none
def zxW (P : Program) (op : BinOp) (t : TypeId) (c : Bool) : D → D → Option D
 | .int k a, .int k' b => zl3 k k' a b op
 | .str a, .str b => zDX a b op
 | x, y => zxV P t c x y op
def dun : UnOp → D → Option D
 | .neg, .int k n => some (.int k (k.wrap (0 - n)))
 | .xor, .int k n => some (.int k (k.wrap (BitVec.ofInt k.bits (if k.signed then -1 else k.max) ^^^ BitVec.ofInt k.bits n).toNat))
 | .not, .bool b => some (.bool !b)
 | _, _ => none
def zv6 (P : Program) (f : Nat) : D → TK → Option D
 | .agg cs, .struct fs => bnd fs[f]? fun p => bnd (zcG P p.1) fun ti => part ti cs p.2
 | _, _ => none
def zzZ (P : Program) (t : TypeId) (x : D) (f : Nat) : Option D := bnd (kOf P t) (zv6 P f x)
def ztx (P : Program) (n : Int) : D → TK → Option D
 | .str s, .str => bnd (ok (decide (0 ≤ n))) fun _ => bnd s[n.toNat]? fun b => some (.int .u8 b.toNat)
 | .agg cs, .array len e => bnd (zcG P e) fun ti => bnd (ok (decide (0 ≤ n) && decide (n < len))) fun _ => part ti cs (n.toNat * ti.size)
 | _, _ => none
def zzY (P : Program) (t : TypeId) (x : D) : D → Option D
 | .int _ n => bnd (kOf P t) (ztx P n x)
 | _ => none
def bound (dflt top : Nat) : Option D → Option Nat
 | none => some dflt
 | some (.int _ n) => bnd (ok (decide (0 ≤ n) && decide (n ≤ top))) fun _ => some n.toNat
 | some _ => none
def zh5 (place : Nat → Option (Nat × Nat)) (cells : List D) : List (Nat × D) → Option (List D)
 | [] => some cells
 | p :: rest => bnd (place p.1) fun q =>
     bnd (ok (decide ((cellsOf p.2).length = q.2) && decide (q.1 + q.2 ≤ cells.length) && zby (cellsOf p.2))) fun _ => zh5 place (put cells q.1 (cellsOf p.2)) rest
def ziK (P : Program) (fs : List (TypeId × Nat)) (i : Nat) : Option (Nat × Nat) := bnd fs[i]? fun p => bnd (zcG P p.1) fun ti => some (p.2, ti.size)
def zv8 (P : Program) (parts : List (Nat × D)) (z : List D) : TK → Option D
 | .struct fs => bnd (zh5 (ziK P fs) z parts) fun l => some (.agg l)
 | .array _ e => bnd (zcG P e) fun ti => bnd (zh5 (fun i => some (i * ti.size, ti.size)) z parts) fun l => some (.agg l)
 | _ => none
def zz5 (P : Program) (t : TypeId) (parts : List (Nat × D)) : Option D := bnd (zcG P t) fun ti => zv8 P parts ti.zero ti.kind
def zAb : Row → Option UInt8
 | [.int .u8 n] => some (UInt8.ofNat n.toNat)
 | _ => none
def zju : List Row → Option (List UInt8)
 | [] => some []
 | r :: l => bnd (zAb r) fun b => bnd (zju l) fun bs => some (b :: bs)
def zhM (b : UInt8) : Row := [.int .u8 b.toNat]
def zNC : D → D → Option D
 | .int k a, .int k' b => if k = k' then some (.int k (if b < a then b else a)) else none
 | _, _ => none
def zND : D → D → Option D
 | .int k a, .int k' b => if k = k' then some (.int k (if b > a then b else a)) else none
 | _, _ => none
def zyT (f : D → D → Option D) : D → List D → Option D
 | x, [] => some x
 | x, y :: r => bnd (f x y) fun z => zyT f z r
end Go.Ev
namespace Go.Ev
structure St where
 env : Env
 mem : Mem
inductive Ex where
 | normal | ret | exit (id : Nat)
structure Res where
 val : D
 args : List Blk
 esc : List Blk
structure Cfg where
 P : Program
 prim : FuncId → Option (List D → Option D)
 byRef : FuncId → Bool
 fine : FuncId → Bool
 alt : FuncId → Option (List D → List Blk → Option Res) := fun _ => none
 byRes : FuncId → Bool := fun _ => false
def zbW : Option Blk → Nat
 | some b => b.gen + 1
 | none => 0
structure RB where
 fz : Bool
 cl : Bool
 sz : Nat
 rs : List Row
def zxL (g : Nat) : Option Blk → M RB
 | some (.rows g' fz cl sz rs) => do
   M.guard (decide (g' = g))
   pure ⟨fz, cl, sz, rs⟩
 | _ => .fail
def zhD (b : Nm) (g : Nat) : M RB := do
 let o ← M.peek b
 zxL g o
def zkm (b : Nm) (sz : Nat) (rs : List Row) (cl : Bool) : M (Nat × Ups) := do
 let o ← M.peek b
 pure (zbW o, [(b, .rows (zbW o) false cl sz rs)])
def zeW {α : Type} (f : α → M (α × List Nm)) : List α → M (List α × List Nm)
 | [] => pure ([], [])
 | d :: r => do
   let p ← f d
   let q ← zeW f r
   pure (p.1 :: q.1, p.2 ++ q.2)
def zhv : Nat → D → M (D × List Nm)
 | n + 1, .own b g off len => do
   let k ← zhD b g
   M.guard (decide (off + len ≤ k.rs.length))
   if k.cl then pure (.sl .any (cut k.rs off len), [b])
   else do
    let p ← zeW (zeW (zhv n)) (cut k.rs off len)
    M.guard (zgg p.1)
    pure (.sl .any p.1, b :: p.2)
 | n + 1, .agg cs => do
   let p ← zeW (zhv n) cs
   pure (.agg p.1, p.2)
 | n + 1, .tup cs => do
   let p ← zeW (zhv n) cs
   pure (.tup p.1, p.2)
 | 0, .own b g off len => pure (.own b g off len, [])
 | 0, .agg cs => pure (.agg cs, [])
 | 0, .tup cs => pure (.tup cs, [])
 | _, .bool b => pure (.bool b, [])
 | _, .int k n => pure (.int k n, [])
 | _, .str s => pure (.str s, [])
 | _, .nilp => pure (.nilp, [])
 | _, .ptr b g r o => pure (.ptr b g r o, [])
 | _, .eptr r o => pure (.eptr r o, [])
 | _, .sl f r => pure (.sl f r, [])
 | _, .nilm => pure (.nilm, [])
 | _, .map b g => pure (.map b g, [])
 | _, .iter b g => pure (.iter b g, [])
 | _, .fn f a b => pure (.fn f a b, [])
 | _, .nilf => pure (.nilf, [])
 | _, .iface t v => pure (.iface t v, [])
 | _, .nili => pure (.nili, [])
 | _, .unk => pure (.unk, [])
def zuV (b : Nm) : Option Blk → M (Nm × Blk)
 | some (.rows g _ cl sz rs) => pure (b, .rows g true cl sz rs)
 | _ => .fail
def zgj : List Nm → M Ups
 | [] => pure []
 | b :: l => do
   let o ← M.peek b
   let u ← zuV b o
   let us ← zgj l
   pure (u :: us)
def zni (size : Nat) (rs : List Row) : Bool := rs.all fun r => r.length == size
def zz6 (P : Program) (T : Nat) (t : TypeId) : M (D × Ups) := do
 let ti ← M.lift (zcG P t)
 M.guard (decide (0 < ti.size) && decide (ti.zero.length = ti.size) && zby ti.zero)
 let p ← zkm (.loc T 0) ti.size [ti.zero] (zaJ ti.zero)
 pure (.ptr (.loc T 0) p.1 0 0, p.2)
def zNJ (P : Program) (T : Nat) (t : TypeId) (x : D) : M (D × Ups) := do
 let ti ← M.lift (zcG P t)
 M.guard (decide (0 < ti.size) && decide ((cellsOf x).length = ti.size) && zby (cellsOf x))
 let p ← zkm (.loc T 0) ti.size [cellsOf x] (zaJ (cellsOf x))
 pure (.ptr (.loc T 0) p.1 0 0, p.2)
def zzX (ti : TI) : D → M D
 | .ptr b g r o => do
   let k ← zhD b g
   let row ← M.lift k.rs[r]?
   M.lift (part ti row o)
 | .eptr row o => M.lift (part ti row o)
 | _ => .fail
def zDb (P : Program) (t : TypeId) (d : D) : M D := do
 let ti ← M.lift (zcG P t)
 zzX ti d
def zyU (ti : TI) (x : D) : D → M Ups
 | .ptr b g r o => do
   let k ← zhD b g
   let row ← M.lift k.rs[r]?
   M.guard (!k.fz && decide ((cellsOf x).length = ti.size) && zby (cellsOf x) && decide (o + ti.size ≤ row.length))
   pure [(b, .rows g k.fz (k.cl && zaJ (cellsOf x)) k.sz (k.rs.set r (put row o (cellsOf x))))]
 | _ => .fail
def zzU (P : Program) (t : TypeId) (d x : D) : M Ups := do
 let ti ← M.lift (zcG P t)
 zyU ti x d
def zu6 (n : Nat) : D → Option D
 | .ptr b g r o => some (.ptr b g r (o + n))
 | .eptr row o => some (.eptr row (o + n))
 | _ => none
def zmL (P : Program) (d : D) (f : Nat) : TK → Option D
 | .struct fs => bnd fs[f]? fun p => bnd (zcG P p.1) fun ti => bnd (ok (decide (0 < ti.size))) fun _ => zu6 p.2 d
 | _ => none
def zoJ (P : Program) (t : TypeId) (d : D) (f : Nat) : Option D := bnd (kOf P t) (zmL P d f)
def zl4 (ti : TI) (n : Int) : D → M D
 | .sl _ rs => do
   M.guard (decide (0 ≤ n))
   let row ← M.lift rs[n.toNat]?
   M.guard (decide (row.length = ti.size))
   pure (.eptr row 0)
 | .own b g off len => do
   M.guard (decide (0 ≤ n) && decide (n < len))
   let k ← zhD b g
   M.guard (decide (k.sz = ti.size))
   pure (.ptr b g (off + n.toNat) 0)
 | _ => .fail
def zkq (P : Program) (n : Int) (d : D) : TK → M D
 | .slice e => do
   let ti ← M.lift (zcG P e)
   zl4 ti n d
 | .array len e => do
   let ti ← M.lift (zcG P e)
   M.guard (decide (0 ≤ n) && decide (n < len) && decide (0 < ti.size))
   M.lift (zu6 (n.toNat * ti.size) d)
 | _ => .fail
def zoI (P : Program) (t : TypeId) (d : D) : D → M D
 | .int _ n => do
   let k ← M.lift (kOf P t)
   zkq P n d k
 | _ => .fail
def ziI (f : Fl) (mx : Bool) : Fl :=
 match f, mx with
 | .nil, _ => .nil
 | .any, _ => .any
 | .full, true => .full
 | .full, false => .any
def zeC (P : Program) (lo hi mx : Option D) : D → TK → M D
 | .str s, .str => do
   M.guard mx.isNone
   let h ← M.lift (bound s.length s.length hi)
   let l ← M.lift (bound 0 h lo)
   pure (.str (cut s l (h - l)))
 | .sl f rs, .slice e => do
   let ti ← M.lift (zcG P e)
   let m ← M.lift (bound rs.length rs.length mx)
   let h ← M.lift (bound (if mx.isSome then m + 1 else rs.length) m hi)
   M.guard (decide (h ≤ m))
   let l ← M.lift (bound 0 h lo)
   M.guard (decide (l = 0) || zni ti.size rs)
   pure (.sl (if mx.isSome && f != .nil then ziI .full (h == m) else ziI f (h == m)) (cut rs l (h - l)))
 | .own b g off len, .slice e => do
   M.guard mx.isNone
   let ti ← M.lift (zcG P e)
   let h ← M.lift (bound len len hi)
   let l ← M.lift (bound 0 h lo)
   let k ← zhD b g
   M.guard (decide (k.sz = ti.size))
   pure (.own b g (off + l) (h - l))
 | _, _ => .fail
def zzV (P : Program) (t : TypeId) (x : D) (lo hi mx : Option D) : M D := do
 let k ← M.lift (kOf P t)
 zeC P lo hi mx x k
def zkf : D → M (List Row × List Nm × Bool)
 | .sl _ rs => pure (rs, [], true)
 | .str s => pure (s.map zhM, [], true)
 | .own b g off len => do
   let k ← zhD b g
   M.guard (decide (off + len ≤ k.rs.length))
   if k.cl then pure (cut k.rs off len, [], true)
   else do
    let p ← zeW (zeW (zhv 8)) (cut k.rs off len)
    pure (p.1, p.2, zgg p.1)
 | _ => .fail
def zgh : TK → Option TypeId
 | .slice e => some e
 | _ => none
def znK : TK → Bool
 | .slice _ | .str => true
 | _ => false
def zqy (T : Nat) (ti : TI) (new : List Row) (l : List Nm) (st : Bool) : D → M (D × Ups)
 | .own b g off len => do
   let fz ← zgj l
   let k ← zhD b g
   M.guard (!k.fz && decide (off + len ≤ k.rs.length) && decide (k.sz = ti.size) && decide ((len + new.length) * ti.bytes ≤ room) && !(l.contains b))
   pure (.own b (g + 1) 0 (len + new.length), fz ++ [(b, .rows (g + 1) false (k.cl && st) k.sz (cut k.rs off len ++ new))])
 | .sl f rs => do
   M.guard (f != .any && zni ti.size rs)
   if new.isEmpty then pure (.sl f rs, [])
   else do
    let fz ← zgj l
    M.guard (decide ((rs.length + new.length) * ti.bytes ≤ room) && !(l.contains (.loc T 0)))
    let p ← zkm (.loc T 0) ti.size (rs ++ new) st
    pure (.own (.loc T 0) p.1 0 (rs.length + new.length), fz ++ p.2)
 | _ => .fail
def zjt : TK → Bool
 | .int _ => true
 | _ => false
def zwa (T : Nat) (ti : TI) : D → D → M (D × Ups)
 | .sl f rs, .int _ n => do
   M.guard (f != .any && rs.isEmpty && decide (0 < n) && decide (n * ti.bytes ≤ (room : Int)) && decide (0 < ti.size) && decide (0 < ti.bytes) && decide (ti.zero.length = ti.size) && zby ti.zero)
   let p ← zkm (.loc T 0) ti.size (List.replicate n.toNat ti.zero) (zaJ ti.zero)
   pure (.own (.loc T 0) p.1 0 n.toNat, p.2)
 | _, _ => .fail
def zwb (P : Program) (T : Nat) (s x : D) : List TypeId → M (D × Ups)
 | [t, tx] => do
   let k ← M.lift (kOf P t)
   let e ← M.lift (zgh k)
   let ti ← M.lift (zcG P e)
   let kx ← M.lift (kOf P tx)
   if zjt kx then zwa T ti s x else do
   M.guard (znK kx)
   let q ← zkf x
   M.guard (zni ti.size q.1 && decide (0 < ti.size) && decide (0 < ti.bytes) && decide (ti.zero.length = ti.size) && zby ti.zero)
   zqy T ti q.1 q.2.1 q.2.2 s
 | _ => .fail
def zDa (T : Nat) (ti : TI) : D → D → M (D × Ups)
 | .int _ l, .int _ c => do
   M.guard (decide (0 ≤ l) && decide (l ≤ c) && decide (ti.bytes * c ≤ 281474976710656) && decide (c ≤ 9223372036854775807) && decide (0 < ti.size) && decide (ti.zero.length = ti.size) && zby ti.zero)
   let p ← zkm (.loc T 0) ti.size (List.replicate l.toNat ti.zero) (zaJ ti.zero)
   pure (.own (.loc T 0) p.1 0 l.toNat, p.2)
 | _, _ => .fail
def zoH (P : Program) (T : Nat) (t : TypeId) (l c : D) : M (D × Ups) := do
 let k ← M.lift (kOf P t)
 let e ← M.lift (zgh k)
 let ti ← M.lift (zcG P e)
 zDa T ti l c
def zoG (size : Nat) (rows : List Row) : List (Nat × D) → Option (List Row)
 | [] => some rows
 | p :: rest => bnd (ok (decide ((cellsOf p.2).length = size) && decide (p.1 < rows.length) && zby (cellsOf p.2))) fun _ => zoG size (rows.set p.1 (cellsOf p.2)) rest
def zyt (p : Nat × D) : M ((Nat × D) × List Nm) := do
 let q ← zhv 8 p.2
 pure ((p.1, q.1), q.2)
def zmM (P : Program) (T : Nat) (t : TypeId) (len : Nat) (parts : List (Nat × D)) : M (D × Ups) := do
 let k ← M.lift (kOf P t)
 let e ← M.lift (zgh k)
 let ti ← M.lift (zcG P e)
 M.guard (decide (0 < ti.size) && decide (len * ti.size ≤ 16777216) && decide (ti.zero.length = ti.size) && zby ti.zero)
 let ps ← zeW zyt parts
 let rs ← M.lift (zoG ti.size (List.replicate len ti.zero) ps.1)
 let fz ← zgj ps.2
 M.guard (!(ps.2.contains (.loc T 0)))
 let p ← zkm (.loc T 0) ti.size rs (zgg rs)
 pure (.own (.loc T 0) p.1 0 len, fz ++ p.2)
def zuj (g : Nat) : Option Blk → M (Bool × List Ent × Nat)
 | some (.map g' cl es clock) => do
   M.guard (decide (g' = g))
   pure (cl, es, clock)
 | _ => .fail
def zlq (b : Nm) (g : Nat) : M (Bool × List Ent × Nat) := do
 let o ← M.peek b
 zuj g o
def zv2 : D → TK → M D
 | .str s, .str => pure (.int .i64 s.length)
 | .sl _ rs, .slice _ => pure (.int .i64 rs.length)
 | .own _ _ _ len, .slice _ => pure (.int .i64 len)
 | .nilm, .map _ _ => pure (.int .i64 0)
 | .map b g, .map _ _ => do
   let k ← zlq b g
   pure (.int .i64 k.2.1.length)
 | _, .array n _ => pure (.int .i64 n)
 | _, _ => .fail
def zNE (P : Program) (x : D) : List TypeId → M D
 | [t] => do
   let k ← M.lift (kOf P t)
   zv2 x k
 | _ => .fail
def zJp : D → TK → M D
 | .sl f rs, .slice _ => do
   M.guard (f != .any)
   pure (.int .i64 rs.length)
 | _, _ => .fail
def zQA (P : Program) (x : D) : List TypeId → M D
 | [t] => do
   let k ← M.lift (kOf P t)
   zJp x k
 | _ => .fail
def zFP : TK → Bool
 | .int .u8 => true
 | _ => false
def zpE : D → M (List Row)
 | .sl _ rs => pure rs
 | .own b g off len => do
   let k ← zhD b g
   M.guard (decide (off + len ≤ k.rs.length) && decide (k.sz = 1))
   pure (cut k.rs off len)
 | _ => .fail
def zhw (P : Program) (T : Nat) : D → TK → TK → M (D × Ups)
 | .int _ n, _, .int k => pure (.int k (k.wrap n), [])
 | .str s, _, .str => pure (.str s, [])
 | .str s, .str, .slice e => do
   let ke ← M.lift (kOf P e)
   M.guard (zFP ke)
   let p ← zkm (.loc T 0) 1 (s.map zhM) true
   pure (.own (.loc T 0) p.1 0 s.length, p.2)
 | x, .slice e, .str => do
   let ke ← M.lift (kOf P e)
   M.guard (zFP ke)
   let rs ← zpE x
   let bs ← M.lift (zju rs)
   pure (.str bs, [])
 | _, _, _ => .fail
def zsG (P : Program) (T : Nat) (src dst : TypeId) (x : D) : M (D × Ups) := do
 let ks ← M.lift (kOf P src)
 let kd ← M.lift (kOf P dst)
 zhw P T x ks kd
def zxt (ti : TI) (new : List Row) (st : Bool) : D → M Ups
 | .own b g off len => do
   let k ← zhD b g
   M.guard (!k.fz && decide (off + len ≤ k.rs.length) && decide (k.sz = ti.size) && decide (new.length ≤ len) && decide (0 < new.length))
   pure [(b, .rows g k.fz (k.cl && st) k.sz (put k.rs off new))]
 | _ => .fail
def zDi (ti : TI) (new : List Row) (st : Bool) (d : D) : M (D × Ups) := do
 let us ← zxt ti new st d
 pure (.int .i64 new.length, us)
def zE9 (P : Program) (d x : D) : List TypeId → M (D × Ups)
 | [t, _] => do
   let k ← M.lift (kOf P t)
   let e ← M.lift (zgh k)
   let ti ← M.lift (zcG P e)
   let q ← zkf x
   M.guard (zni ti.size q.1 && decide (0 < ti.size) && q.2.1.isEmpty)
   zDi ti q.1 q.2.2 d
 | _ => .fail
def ztA (ti : TI) : D → M Ups
 | .own b g off 0 => pure []
 | .own b g off (n + 1) => zxt ti (List.replicate (n + 1) ti.zero) (zaJ ti.zero) (.own b g off (n + 1))
 | .sl _ [] => pure []
 | _ => .fail
def zz2 (P : Program) (x : D) : List TypeId → M Ups
 | [t] => do
   let k ← M.lift (kOf P t)
   let e ← M.lift (zgh k)
   let ti ← M.lift (zcG P e)
   M.guard (decide (0 < ti.size) && decide (ti.zero.length = ti.size) && zby ti.zero)
   ztA ti x
 | _ => .fail
def ziE : D → D → Option Bool
 | .int j a, .int k b => if j = k then some (a == b) else none
 | .str a, .str b => some (a == b)
 | .bool a, .bool b => some (a == b)
 | _, _ => none
def zpC (k : D) : List Ent → Nat → Option (Option (Nat × D))
 | [], _ => some none
 | e :: es, i => bnd (ziE k e.key) fun b => if b then some (some (i, e.val)) else zpC k es (i + 1)
def znj : D → TK → Bool
 | .int k' _, .int k => decide (k = k')
 | .str _, .str => true
 | .bool _, .bool => true
 | _, _ => false
def zmG : TK → Option (TypeId × TypeId)
 | .map k e => some (k, e)
 | _ => none
def zxe : Option D → Bool
 | none => true
 | some (.int _ _) => true
 | some _ => false
def zyC (b : Nm) (mk : Nat → Blk) (v : Nat → D) : M (D × Ups) := do
 let o ← M.peek b
 pure (v (zbW o), [(b, mk (zbW o))])
def zsE (P : Program) (T : Nat) (t : TypeId) (r : Option D) : M (D × Ups) := do
 let k ← M.lift (kOf P t)
 let _ ← M.lift (zmG k)
 M.guard (zxe r)
 zyC (.loc T 0) (fun g => .map g true [] 0) (fun g => .map (.loc T 0) g)
def zxm : D → M (List Ent)
 | .nilm => pure []
 | .map b g => do
   let k ← zlq b g
   pure k.2.1
 | _ => .fail
def zzD (z : D) : Option (Nat × D) → D
 | some p => p.2
 | none => z
def zv1 (P : Program) (t : TypeId) (x k : D) (commaOk : Bool) : M D := do
 let kt ← M.lift (kOf P t)
 let q ← M.lift (zmG kt)
 let ke ← M.lift (kOf P q.1)
 let ti ← M.lift (zcG P q.2)
 M.guard (znj k ke)
 let z ← M.lift (zAR ti.kind ti.zero)
 let es ← zxm x
 let r ← M.lift (zpC k es 0)
 pure (if commaOk then .tup [zzD z r, .bool r.isSome] else zzD z r)
def zzs (k v : D) (es : List Ent) (clock : Nat) : Option (Nat × D) → List Ent × Nat
 | some p => (es.modify p.1 fun e => ⟨k, v, e.born⟩, clock)
 | none => (es ++ [⟨k, v, clock⟩], clock + 1)
def zmK (k v : D) : D → M Ups
 | .map b g => do
   let q ← zlq b g
   let r ← M.lift (zpC k q.2.1 0)
   pure [(b, .map g (q.1 && zaJ (cellsOf v)) (zzs k v q.2.1 q.2.2 r).1 (zzs k v q.2.1 q.2.2 r).2)]
 | _ => .fail
def ziM (P : Program) (t : TypeId) (x k v : D) : M Ups := do
 let kt ← M.lift (kOf P t)
 let q ← M.lift (zmG kt)
 let ke ← M.lift (kOf P q.1)
 M.guard (znj k ke)
 zmK k v x
def zn3 (P : Program) (t : TypeId) (x k v : D) : M Ups := do
 let q ← zhv 8 v
 let fz ← zgj q.2
 let us ← ziM P t x k q.1
 pure (fz ++ us)
def ztt (T : Nat) : D → TK → M (D × Ups)
 | .str s, .str => zyC (.loc T 0) (fun g => .siter g s 0) (fun g => .iter (.loc T 0) g)
 | .nilm, .map _ _ => zyC (.loc T 0) (fun g => .miter g none 0 [] 0) (fun g => .iter (.loc T 0) g)
 | .map b g, .map _ _ => do
   let q ← zlq b g
   zyC (.loc T 0) (fun g' => .miter g' (some (b, g)) q.2.2 [] q.2.2) (fun g => .iter (.loc T 0) g)
 | _, _ => .fail
def zzW (P : Program) (T : Nat) (t : TypeId) (x : D) : M (D × Ups) := do
 let k ← M.lift (kOf P t)
 ztt T x k
def zBy : D := .tup [.bool false]
def zAP (b : Nm) (g : Nat) : Option Blk → Bool → M (List (D × Ups))
 | some (.siter g' s pos), true => do
   M.guard (decide (g' = g))
   if pos < s.length then
    pure [(.tup [.bool true, .int .i64 pos, .int .i32 (Utf8.decode ⟨s.toArray⟩ pos).1], [(b, .siter g s (pos + (Utf8.decode ⟨s.toArray⟩ pos).2))])]
   else pure [(zBy, [])]
 | some (.miter g' none _ _ _), false => do
   M.guard (decide (g' = g))
   pure [(zBy, [])]
 | some (.miter g' (some m) since seen last), false => do
   M.guard (decide (g' = g))
   let q ← zlq m.1 m.2
   M.guard (!(!seen.isEmpty && !q.2.1.isEmpty && q.2.1.all fun e => decide (e.born ≥ last)))
   let left := q.2.1.filter fun e => !seen.contains e.born
   let old := left.filter fun e => decide (e.born < since)
   let new := left.filter fun e => decide (e.born ≥ since)
   pure ((if old.isEmpty then [(zBy, [])] else []) ++
    (old ++ new).map fun e => (.tup [.bool true, e.key, e.val], [(b, .miter g (some m) since (seen ++ [e.born]) q.2.2)]))
 | _, _ => .fail
def zE8 (isString : Bool) : D → M (List (D × Ups))
 | .iter b g => do
   let o ← M.peek b
   zAP b g o isString
 | _ => .fail
def zC5 (g : Nat) : Option Blk → M D
 | some (.miter g' (some m) _ seen stepped) => do
   M.guard (decide (g' = g))
   let q ← zlq m.1 m.2
   let stamp ← M.lift seen.getLast?
   M.guard (decide (q.2.2 = stepped))
   let e ← M.lift (q.2.1.find? fun e => e.born == stamp)
   pure (.tup [e.key, e.val])
 | _ => .fail
def zz0 : D → M D
 | .iter b g => do
   let o ← M.peek b
   zC5 g o
 | _ => .fail
def idx (b : Nm) : List Nm → Option Nat
 | [] => none
 | c :: l => if b = c then some 0 else bnd (idx b l) fun i => some (i + 1)
def zGO : Option Blk → M (List Nm)
 | some k => pure k.ids
 | none => .fail
def zvx : Nat → List Nm → List Nm → M (List Nm)
 | _, [], acc => pure acc
 | 0, _ :: _, _ => .fail
 | n + 1, b :: todo, acc =>
   if acc.contains b then zvx n todo acc
   else do
    let o ← M.peek b
    let l ← zGO o
    zvx n (l ++ todo) (acc ++ [b])
def rin (L : List Nm) (b : Nm) : Option (Nm × Nat) := bnd (idx b L) fun i => some (.arg i, 0)
def zBv (L : List Nm) (T : Nat) (sh : List Nat) : Nm → Option (Nm × Nat)
 | .arg i => bnd L[i]? fun b => some (b, 0)
 | .loc 0 j => bnd sh[j]? fun s => some (.loc T j, s)
 | .loc (_ + 1) _ => none
def zwX : List Nm → M (List Blk)
 | [] => pure []
 | b :: l => do
   let o ← M.peek b
   let k ← M.lift o
   let ks ← zwX l
   pure (k :: ks)
def zmJ (rids : List Nm) (b : Nm) : Blk → Blk
 | .rows g fz cl sz rs => .rows g (fz || rids.contains b) cl sz rs
 | .map g cl es c => .map g cl es c
 | .siter g s p => .siter g s p
 | .miter g m i l h => .miter g m i l h
def zqs (rids : List Nm) : List Nm → List Blk → List Blk
 | b :: l, k :: ks => zmJ rids b k :: zqs rids l ks
 | [], _ => []
 | _ :: _, [] => []
def zmy (ρ : Nm → Option (Nm × Nat)) : List Blk → Option (List Blk)
 | [] => some []
 | k :: l => bnd (zgi ρ 0 k) fun k' => bnd (zmy ρ l) fun l' => some (k' :: l')
def zs1 (T : Nat) : Nat → List Blk → M (List Nat)
 | _, [] => pure []
 | j, _ :: l => do
   let o ← M.peek (.loc T j)
   let r ← zs1 T (j + 1) l
   pure (zbW o :: r)
def zk9 (ρ : Nm → Option (Nm × Nat)) (T : Nat) : Nat → List Nat → List Blk → Option Ups
 | j, s :: sh, k :: l => bnd (zgi ρ s k) fun k' => bnd (zk9 ρ T (j + 1) sh l) fun l' => some ((.loc T j, k') :: l')
 | _, [], _ => some []
 | _, _ :: _, [] => some []
def zjA : List Nm → List Blk → Ups
 | b :: l, k :: ks => (b, k) :: zjA l ks
 | [], _ => []
 | _ :: _, [] => []
def zvJ (T n : Nat) : Nm → Bool
 | .loc t j => !(t == T && Nat.blt j n)
 | .arg _ => true
def zEN (T n : Nat) : List Nm → Bool
 | [] => true
 | b :: l => zvJ T n b && zEN T n l
def zqd (byRef : Bool) (args : List D) : M (List D × List Nm) := if byRef then pure (args, []) else zeW (zhv 8) args
def zz4 (call : List D → List Blk → Option Res) (T : Nat) (as : List D) (rids : List Nm) : M (D × Ups) := do
 let L ← zvx 64 (zkO as) []
 let fz ← zgj rids
 let ks ← zwX L
 let as' ← M.lift (zkh (rin L) as)
 let sub ← M.lift (zmy (rin L) (zqs rids L ks))
 let r ← M.lift (call as' sub)
 M.guard (decide (r.args.length = L.length))
 M.guard (zEN T r.esc.length L)
 let sh ← zs1 T 0 r.esc
 let v ← M.lift (ren (zBv L T sh) r.val)
 let back ← M.lift (zmy (zBv L T sh) r.args)
 let esc ← M.lift (zk9 (zBv L T sh) T 0 sh r.esc)
 pure (v, (if L.isEmpty && (zrj r.val && r.esc.isEmpty) then [] else fz) ++ (zjA L back ++ esc))
def zz3 (call : List D → List Blk → Option Res) (T : Nat) (q : List D × List Nm) : Option (List D → Option D) → M (D × Ups)
 | some p => do
   let _ ← zgj q.2
   let v ← M.lift (p q.1)
   pure (v, [])
 | none => zz4 call T q.1 q.2
def zFb (C : Cfg) (call : FuncId → List D → List Blk → Option Res) (T : Nat) (f : FuncId) (args : List D) : M (D × Ups) := do
 let q ← zqd (C.byRef f) args
 zz3 (call f) T q (C.prim f)
def one (x : M (D × Ups)) : M (List (D × Ups)) := do
 let r ← x
 pure [r]
def val (x : M D) : M (List (D × Ups)) := do
 let v ← x
 pure [(v, [])]
def zkc : D := .tup []
def eff (x : M Ups) : M (List (D × Ups)) := do
 let us ← x
 pure [(zkc, us)]
def ziX (P : Program) (T : Nat) (ts : List TypeId) : Builtin → List D → M (List (D × Ups))
 | .len, [x] => val (zNE P x ts)
 | .append, [s, x] => one (zwb P T s x ts)
 | .min, x :: r => val (M.lift (zyT zNC x r))
 | .max, x :: r => val (M.lift (zyT zND x r))
 | .cap, [x] => val (zQA P x ts)
 | .copy, [d, x] => one (zE9 P d x ts)
 | .clear, [x] => eff (zz2 P x ts)
 | _, _ => .fail
def zho : Operand → Bool
 | .const _ => true
 | _ => false
def zE7 (a b : D) : D → Option D
 | .bool t => some (if t then a else b)
 | _ => none
def zHH : D → Option D
 | .ptr b g r o => some (.ptr b g r o)
 | .eptr r o => some (.eptr r o)
 | .fn (.func f) a b => some (.fn (.func f) a b)
 | _ => none
def zhI : TK → Bool
 | .iface => true
 | _ => false
def zsF (i : Nat) : D → Option D
 | .tup ds => ds[i]?
 | _ => none
def zDj (C : Cfg) (call : FuncId → List D → List Blk → Option Res) (T : Nat) (args : List D) : D → M (List (D × Ups))
 | .fn (.func g) a b => one (zFb C call T g (a ++ (args ++ b)))
 | _ => .fail
def zls (C : Cfg) (call : FuncId → List D → List Blk → Option Res) (T : Nat) (ρ : Operand → D) (ts : List TypeId) (args : List D) : Callee → M (List (D × Ups))
 | .builtin b => ziX C.P T ts b args
 | .value f => zDj C call T args (ρ f)
 | .invoke _ _ => .fail
def T0 : Option Nat → Nat
 | some t => t
 | none => 99999
def dop (C : Cfg) (call : FuncId → List D → List Blk → Option Res) (ρ : Operand → D) (dst : Option Nat) : Op → M (List (D × Ups))
 | .move x => pure [(ρ x, [])]
 | .assign x => pure [(ρ x, [])]
 | .pick c a b => val (M.lift (zE7 (ρ a) (ρ b) (ρ c)))
 | .alloc t => one (zz6 C.P (T0 dst) t)
 | .box t x => one (zNJ C.P (T0 dst) t (ρ x))
 | .build t ps => val (M.lift (zz5 C.P t (ps.toList.map fun p => (p.1, ρ p.2))))
 | .buildSlice t len ps => one (zmM C.P (T0 dst) t len (ps.toList.map fun p => (p.1, ρ p.2)))
 | .load t a => val (zDb C.P t (ρ a))
 | .store t a x => eff (zzU C.P t (ρ a) (ρ x))
 | .nilCheck x => val (M.lift (zHH (ρ x)))
 | .binOp op t x y _ => val (M.lift (zxW C.P op t (zho x || zho y) (ρ x) (ρ y)))
 | .unOp op _ x => val (M.lift (dun op (ρ x)))
 | .convert s d x => one (zsG C.P (T0 dst) s d (ρ x))
 | .makeInterface t x => do
   let k ← M.lift (kOf C.P t)
   M.guard (!(zhI k))
   pure [(.iface t (ρ x), [])]
 | .makeFunc f a b => pure [(.fn f (a.toList.map ρ) (b.toList.map ρ), [])]
 | .makeMap t r => one (zsE C.P (T0 dst) t (r.map ρ))
 | .makeSlice t l c => one (zoH C.P (T0 dst) t (ρ l) (ρ c))
 | .slice t x l h m => val (zzV C.P t (ρ x) (l.map ρ) (h.map ρ) (m.map ρ))
 | .fieldAddr t x f => val (M.lift (zoJ C.P t (ρ x) f))
 | .field t x f => val (M.lift (zzZ C.P t (ρ x) f))
 | .indexAddr t x i => val (zoI C.P t (ρ x) (ρ i))
 | .index t x i => val (M.lift (zzY C.P t (ρ x) (ρ i)))
 | .lookup t x i ok => val (zv1 C.P t (ρ x) (ρ i) ok)
 | .mapUpdate t m k x => eff (zn3 C.P t (ρ m) (ρ k) (ρ x))
 | .insert t m k x => eff (zn3 C.P t (ρ m) (ρ k) (ρ x))
 | .range t x => one (zzW C.P (T0 dst) t (ρ x))
 | .next it s => zE8 s (ρ it)
 | .entry it => val (zz0 (ρ it))
 | .extract t i => val (M.lift (zsF i (ρ t)))
 | .call c => zls C call (T0 dst) ρ c.argTypes.toList (c.args.toList.map ρ) c.callee
 | _ => .fail
def Env.put (e : Env) (v : D) : Option Nat → Env
 | some t => e.upd t v
 | none => e
def St.put (s : St) (dst : Option Nat) (r : D × Ups) : St := ⟨s.env.put r.1 dst, s.mem.upds r.2⟩
def zmj : Bool → D → Option Bool
 | true, .bool b => some b
 | false, .bool b => some !b
 | true, .tup [] => some false
 | false, .tup [] => some false
 | _, _ => none
def sel {α : Type} (a b : Option α) : Bool → Option α
 | true => a
 | false => b
def ziL (ops : Array Oper) (e : Env) : Option (Nat × Bool) → Option Bool
 | none => some true
 | some g => bnd (bnd ops[g.1]? Oper.dst) fun t => zmj g.2 (e t)
def zyo : Option Res → Option Res → Bool
 | some a, some b => zk8 a.val b.val && zp9 a.args b.args && zp9 a.esc b.esc
 | _, _ => false
def ztM : List (Option Res) → Option Res
 | [] => none
 | [r] => r
 | r :: q :: l => if zyo r (ztM (q :: l)) then r else none
def ways (k : D × Ups → Option Res) : List (D × Ups) → Option Res
 | [] => none
 | [r] => k r
 | r :: q :: l => ztM ((r :: q :: l).map k)
def zDY (C : Cfg) (call : FuncId → List D → List Blk → Option Res) (ops : Array Oper) (k : St → Option Res) : List Oper → St → Option Res
 | [], s => k s
 | o :: rest, s =>
   bnd (ziL ops s.env o.guard) fun b =>
    sel (bnd ((dop C call (opd s.env) o.dst o.op).run s.mem []) fun p => ways (fun r => zDY C call ops k rest (s.put o.dst r)) p.1)
     (zDY C call ops k rest (s.put o.dst (zkc, []))) b
structure Trc where
 st : St
 rd : List Nm
 wr : List Nm
def zw2 (s : St) (dst : Option Nat) : List (D × Ups) × List Nm → Option Trc
 | ([r], l) => some ⟨s.put dst r, l, r.2.map (·.1)⟩
 | _ => none
def zqw (C : Cfg) (call : FuncId → List D → List Blk → Option Res) (ops : Array Oper) (o : Oper) (s : St) : Option Trc :=
 bnd (ziL ops s.env o.guard) fun b =>
  sel (bnd ((dop C call (opd s.env) o.dst o.op).run s.mem []) (zw2 s o.dst)) (some ⟨s.put o.dst (zkc, []), [], []⟩) b
abbrev zwv := Nat × List Nm × List Nm
def zE6 (C : Cfg) (call : FuncId → List D → List Blk → Option Res) (ops : Array Oper) : Nat → List Oper → St → Option (St × List zwv)
 | _, [], s => some (s, [])
 | i, o :: rest, s => bnd (zqw C call ops o s) fun t => bnd (zE6 C call ops (i + 1) rest t.st) fun q => some (q.1, (i, t.rd, t.wr) :: q.2)
def orl (a : Bool) (b : Unit → Bool) : Bool := a || b ()
def zts (ops : Array Oper) (j : Nat) : List Edge :=
 match ops[j]? with
 | some o => o.after.toList
 | none => []
def zoa : Ground → Bool
 | .textOnly _ => false
 | .gcOnly _ => false
 | .data => true
 | .chain => true
 | .guard => true
 | .phase => true
def zpG (f : Nat → Bool) (j : Nat) : List Edge → Bool
 | [] => false
 | e :: l => orl (zoa e.ground && decide (e.on < j) && f e.on) fun _ => zpG f j l
def zjs (ops : Array Oper) (i : Nat) : Nat → Nat → Bool
 | 0, _ => false
 | n + 1, j => orl (zpG (fun x => x == i) j (zts ops j)) fun _ => zpG (fun x => zjs ops i n x) j (zts ops j)
def zHJ : List Nm → List Nm → Bool
 | [], _ => true
 | x :: l, b => !(b.contains x) && zHJ l b
def zu4 (x y : zwv) : Bool := zHJ x.2.2 y.2.1 && (zHJ x.2.2 y.2.2 && zHJ y.2.2 x.2.1)
def ztG (ops : Array Oper) (x : zwv) : List zwv → Bool
 | [] => true
 | y :: l => orl (zu4 x y) (fun _ => zjs ops x.1 64 y.1) && ztG ops x l
def zFi (ops : Array Oper) : List zwv → Bool
 | [] => true
 | x :: l => ztG ops x l && zFi ops l
def zc0 (body : (Ex → St → Option Res) → St → Option Res) (k : Ex → St → Option Res) : Nat → St → Option Res
 | 0, _ => none
 | n + 1, s => body (fun ex s' => match ex with
   | .normal => zc0 body k n s'
   | e => k e s') s
def onB {α : Type} (a b : Option α) : D → Option α
 | .bool t => sel a b t
 | _ => none
def zbX (C : Cfg) (call : FuncId → List D → List Blk → Option Res) (n : Nat) : Code → (Ex → St → Option Res) → St → Option Res
 | .skip, k, s => k .normal s
 | .label _, k, s => k .normal s
 | .region _ ops draw, k, s =>
   sel (bnd (zE6 C call ops 0 ops.toList s) fun q => bnd (ok (zFi ops q.2)) fun _ => k .normal q.1) (zDY C call ops (k .normal) ops.toList s) draw
 | .seq a b, k, s => zbX C call n a (fun ex s' => match ex with
   | .normal => zbX C call n b k s'
   | e => k e s') s
 | .cond c a b, k, s => onB (zbX C call n a k s) (zbX C call n b k s) (opd s.env c)
 | .block id c, k, s => zbX C call n c (fun ex s' => match ex with
   | .exit i => if i = id then k .normal s' else k (.exit i) s'
   | e => k e s') s
 | .loop c, k, s => zc0 (zbX C call n c) k n s
 | .exit id, k, s => k (.exit id) s
 | .ret, k, s => k .ret s
 | _, _, _ => none
def zHj (args : List D) (t : Nat) : D := args.getD t zkc
def zl1 (mem : List Blk) : Mem
 | .arg i => mem[i]?
 | .loc _ _ => none
def zuH (P : Program) (e : Env) : ResultVar → M D
 | .tmp t => pure (e t)
 | .cell a t => zDb P t (e a)
def zpv (P : Program) (e : Env) : List ResultVar → M (List D)
 | [] => pure []
 | r :: l => do
   let d ← zuH P e r
   let ds ← zpv P e l
   pure (d :: ds)
def zAm : List D → D
 | [d] => d
 | [] => .tup []
 | a :: b :: l => .tup (a :: b :: l)
def zxU (na : Nat) (esc : List Nm) : Nm → Option (Nm × Nat)
 | .arg i => if i < na then some (.arg i, 0) else none
 | .loc t j => bnd (idx (.loc t j) esc) fun i => some (.loc 0 i, 0)
def ztl : Nm → Bool
 | .loc _ _ => true
 | .arg _ => false
def zmR (n : Nat) : List Nm := (List.range n).map .arg
def zy8 : List Blk → List Nm
 | [] => []
 | k :: l => k.ids ++ zy8 l
def zvw (byRef : Bool) (d : D) : M (D × List Nm) := if byRef then pure (d, []) else zhv 9 d
def zuW (C : Cfg) (f : FuncId) (rs : List ResultVar) (na : Nat) (e : Env) : M Res := do
 let ds ← zpv C.P e rs
 let q ← zvw (C.byRef f || C.byRes f) (zAm ds)
 let _ ← zgj q.2
 let ks ← zwX (zmR na)
 let L ← zvx 64 (ids q.1 ++ zy8 ks) []
 let es ← zwX (L.filter ztl)
 let v' ← M.lift (ren (zxU na (L.filter ztl)) q.1)
 let ks' ← M.lift (zmy (zxU na (L.filter ztl)) (zqs q.2 (zmR na) ks))
 let es' ← M.lift (zmy (zxU na (L.filter ztl)) (zqs q.2 (L.filter ztl) es))
 pure ⟨v', ks', es'⟩
def zHK (C : Cfg) (f : FuncId) (rs : List ResultVar) (na : Nat) : Ex → St → Option Res
 | .exit _, _ => none
 | .normal, s => bnd ((zuW C f rs na s.env).run s.mem []) fun p => some p.1
 | .ret, s => bnd ((zuW C f rs na s.env).run s.mem []) fun p => some p.1
def zNG (C : Cfg) (call : FuncId → List D → List Blk → Option Res) (n : Nat) (f : FuncId) (args : List D) (mem : List Blk) : Option (List D → List Blk → Option Res) → Option Res
 | some F => F args mem
 | none => bnd C.P.funcs[f]? fun fn => bnd fn.body fun c => bnd (ok (C.fine f)) fun _ =>
  zbX C call n c (zHK C f fn.results.toList mem.length) ⟨zHj args, zl1 mem⟩
def dfn (C : Cfg) : Nat → FuncId → List D → List Blk → Option Res
 | 0, _, _, _ => none
 | n + 1, f, args, mem => zNG C (dfn C n) n f args mem (C.alt f)
end Go.Ev
namespace Go.Ev
@[go_sem] theorem Env.upd_at (e : Env) (t : Nat) (v : D) (x : Nat) : (e.upd t v) x = if x = t then v else e x := rfl
@[go_sem] theorem Mem.upd_at (m : Mem) (b c : Nm) (k : Blk) : (m.upd b k) c = if c = b then some k else m c := rfl
attribute [go_sem] Mem.upds St.put Env.put.eq_1 Env.put.eq_2 Blk.gen.eq_1 Blk.gen.eq_2 Blk.gen.eq_3 Blk.gen.eq_4 zbW.eq_1 zbW.eq_2 zGD.eq_1 zGD.eq_2 opd.eq_1 opd.eq_2 opd.eq_3 opd.eq_4 cellsOf.eq_1 cellsOf.eq_2 cellsOf.eq_3 cellsOf.eq_4 cellsOf.eq_5 cellsOf.eq_6 cellsOf.eq_7 cellsOf.eq_8 cellsOf.eq_9 cellsOf.eq_10 cellsOf.eq_11 cellsOf.eq_12 cellsOf.eq_13 cellsOf.eq_14 cellsOf.eq_15 cellsOf.eq_16 cellsOf.eq_17 cellsOf.eq_18 zAR zby cell.eq_1 cell.eq_2 cell.eq_3 cell.eq_4 cell.eq_5 cell.eq_6 cell.eq_7 cell.eq_8 cell.eq_9 cell.eq_10 cell.eq_11 cell.eq_12 cell.eq_13 cell.eq_14 cell.eq_15 cell.eq_16 cell.eq_17 cell.eq_18 zaJ still.eq_1 still.eq_2 still.eq_3 still.eq_4 still.eq_5 still.eq_6 still.eq_7 still.eq_8 still.eq_9 still.eq_10 still.eq_11 still.eq_12 still.eq_13 still.eq_14 still.eq_15 still.eq_16 still.eq_17 still.eq_18 zgg zrj ztq part
attribute [go_sem] ids zkO zQs zQt Blk.ids ren zkh zHs zHv zgi zmy zk9
attribute [go_sem] ofV.eq_1 ofV.eq_2 ofV.eq_3 ofV.eq_4 ofV.eq_5 ofV.eq_6 ofV.eq_7 ofV.eq_8 ofV.eq_9 znT.eq_1 znT.eq_2 znT.eq_3 znT.eq_4 znT.eq_5 znT.eq_6 znT.eq_7 znT.eq_8 zmB only.eq_1
attribute [go_sem] zuY.eq_1 zuY.eq_2 zuY.eq_3 zfc.eq_1 zfc.eq_2 zNH.eq_1 zro.eq_1 zro.eq_2 zro.eq_3 zro.eq_4 zro.eq_5 zro.eq_6 zro.eq_7 zro.eq_8 zro.eq_9 zro.eq_10 zro.eq_11 zro.eq_12 zro.eq_13 zv3 zDX.eq_1 zDX.eq_2 zDX.eq_3 zDX.eq_4 zDX.eq_5 zDX.eq_6 zDX.eq_7 zxV.eq_1 zxV.eq_2 dun.eq_1 dun.eq_2 dun.eq_3 zv6.eq_1 zzZ ztx.eq_1 ztx.eq_2 zzY.eq_1 bound.eq_1 bound.eq_2 zh5 ziK zv8.eq_1 zv8.eq_2 zz5 zAb.eq_1 zju zNC.eq_1 zND.eq_1 zyT
attribute [go_sem] zxL.eq_1 zhD zkm zeW zhv zuV.eq_1 zgj zz6 zNJ zzX.eq_1 zzX.eq_2 zDb zyU.eq_1 zzU zu6.eq_1 zu6.eq_2 zmL.eq_1 zoJ zl4.eq_1 zl4.eq_2 zkq.eq_1 zkq.eq_2 zoI.eq_1
attribute [go_sem] ziI.eq_1 ziI.eq_2 ziI.eq_3 ziI.eq_4 zeC.eq_3 zzV zkf.eq_1 zkf.eq_2 zkf.eq_3 zgh.eq_1 znK.eq_1 znK.eq_2 zqy.eq_1 zqy.eq_2 zwb.eq_1 zjt.eq_1 zDa.eq_1 zoH zoG zyt zmM zuj.eq_1 zlq zv2.eq_1 zv2.eq_2 zv2.eq_3 zv2.eq_4 zv2.eq_5 zNE.eq_1 zFP.eq_1 zpE.eq_1 zpE.eq_2 zhw.eq_1 zhw.eq_2 zhw.eq_3 zsG
attribute [go_sem] ziE.eq_1 ziE.eq_2 ziE.eq_3 zpC znj.eq_1 znj.eq_2 znj.eq_3 zmG.eq_1 zxe.eq_1 zxe.eq_2 zxe.eq_3 zyC zsE zxm.eq_1 zxm.eq_2 zzD.eq_1 zzD.eq_2 zv1 zzs.eq_1 zzs.eq_2 zmK.eq_1 ziM zn3 ztt.eq_1 ztt.eq_2 ztt.eq_3 zzW zBy zAP.eq_1 zAP.eq_2 zAP.eq_3 zE8.eq_1 zC5.eq_1 zz0.eq_1
attribute [go_sem] idx zGO.eq_1 zGO.eq_2 zvx rin zBv.eq_1 zBv.eq_2 zBv.eq_3 zwX zmJ.eq_1 zmJ.eq_2 zmJ.eq_3 zmJ.eq_4 zqs zs1 zvJ.eq_1 zvJ.eq_2 zEN zjA zqd zz4 zz3.eq_1 zz3.eq_2 zFb one val zkc eff ziX.eq_1 ziX.eq_2 ziX.eq_3 ziX.eq_4 ziX.eq_5 ziX.eq_6 ziX.eq_7 zxt.eq_1 zDi zE9.eq_1 ztA.eq_1 ztA.eq_2 ztA.eq_3 zz2.eq_1 zho.eq_1 zE7.eq_1 zHH.eq_1 zHH.eq_2 zHH.eq_3 zhI.eq_1 zsF.eq_1 zDj.eq_1 zls.eq_1 zls.eq_2 zls.eq_3 T0.eq_1 T0.eq_2 dop.eq_1 dop.eq_2 dop.eq_3 dop.eq_4 dop.eq_5 dop.eq_6 dop.eq_7 dop.eq_8 dop.eq_9 dop.eq_10 dop.eq_11 dop.eq_12 dop.eq_13 dop.eq_14 dop.eq_15 dop.eq_16 dop.eq_17 dop.eq_18 dop.eq_19 dop.eq_20 dop.eq_21 dop.eq_22 dop.eq_23 dop.eq_24 dop.eq_25 dop.eq_26 dop.eq_27 dop.eq_28 dop.eq_29 dop.eq_30
attribute [go_sem] zmj.eq_1 zmj.eq_2 zmj.eq_3 zmj.eq_4 ziL.eq_1 ziL.eq_2 zw2.eq_1 zHJ zu4 ztG zFi zts zoa.eq_1 zoa.eq_2 zoa.eq_3 zoa.eq_4 zoa.eq_5 zoa.eq_6 zpG zjs zHj zl1.eq_1 zl1.eq_2 zuH.eq_1 zuH.eq_2 zpv zAm.eq_1 zAm.eq_2 zAm.eq_3 zxU.eq_1 zxU.eq_2 ztl.eq_1 ztl.eq_2 zmR zy8 zvw zuW zHK.eq_1 zHK.eq_2 zHK.eq_3 dfn zNG.eq_1 zNG.eq_2 zni
@[go_sem] theorem zUi (k : IntKind) : TK.agg (.int k) = false := rfl
@[go_sem] theorem zUh  : TK.agg (.bool) = false := rfl
@[go_sem] theorem zUg  : TK.agg (.str) = false := rfl
@[go_sem] theorem zUf  : TK.agg (.ptr) = false := rfl
@[go_sem] theorem zUe (e : TypeId) : TK.agg (.slice e) = false := rfl
@[go_sem] theorem zUd (k e : TypeId) : TK.agg (.map k e) = false := rfl
@[go_sem] theorem zUc  : TK.agg (.func) = false := rfl
@[go_sem] theorem zUb  : TK.agg (.iface) = false := rfl
@[go_sem] theorem zUa  : TK.agg (.tuple) = false := rfl
@[go_sem] theorem zT9  : TK.agg (.other) = false := rfl
@[go_sem] theorem zQr  : zjt (.bool) = false := rfl
@[go_sem] theorem zQq  : zjt (.str) = false := rfl
@[go_sem] theorem zQp  : zjt (.ptr) = false := rfl
@[go_sem] theorem zQo (e : TypeId) : zjt (.slice e) = false := rfl
@[go_sem] theorem zQn (k e : TypeId) : zjt (.map k e) = false := rfl
@[go_sem] theorem zQm  : zjt (.func) = false := rfl
@[go_sem] theorem zQl  : zjt (.iface) = false := rfl
@[go_sem] theorem zQk  : zjt (.tuple) = false := rfl
@[go_sem] theorem zQj  : zjt (.other) = false := rfl
@[go_sem] theorem zT7 (fs : List (TypeId × Nat)) : TK.agg (.struct fs) = true := rfl
@[go_sem] theorem zT8 (n : Nat) (e : TypeId) : TK.agg (.array n e) = true := rfl
@[go_sem] theorem zR2 (k : IntKind) : zhI (.int k) = false := rfl
@[go_sem] theorem zR1  : zhI (.bool) = false := rfl
@[go_sem] theorem zR0  : zhI (.str) = false := rfl
@[go_sem] theorem zRZ  : zhI (.ptr) = false := rfl
@[go_sem] theorem zRY (e : TypeId) : zhI (.slice e) = false := rfl
@[go_sem] theorem zRX (k e : TypeId) : zhI (.map k e) = false := rfl
@[go_sem] theorem zRW  : zhI (.func) = false := rfl
@[go_sem] theorem zRV  : zhI (.tuple) = false := rfl
@[go_sem] theorem zRU  : zhI (.other) = false := rfl
@[go_sem] theorem zRS (fs : List (TypeId × Nat)) : zhI (.struct fs) = false := rfl
@[go_sem] theorem zRT (n : Nat) (e : TypeId) : zhI (.array n e) = false := rfl
@[go_sem] theorem zTN (t : Nat) : zho (.tmp t) = false := rfl
@[go_sem] theorem zTM (t : Nat) : zho (.global t) = false := rfl
@[go_sem] theorem zTL (t : Nat) : zho (.func t) = false := rfl
@[go_sem] theorem zT3 (P : Program) (t : TypeId) (c : Bool) (a b : Bool) : deq P t c (.bool a) (.bool b) = bnd (kOf P t) (zro c (.bool a) (.bool b)) := rfl
@[go_sem] theorem zSe (P : Program) (op : BinOp) (t : TypeId) (c : Bool) (a b : Bool) : zxW P op t c (.bool a) (.bool b) = zxV P t c (.bool a) (.bool b) op := rfl
@[go_sem] theorem zT2 (P : Program) (t : TypeId) (c : Bool)  : deq P t c (.nilp) (.nilp) = bnd (kOf P t) (zro c (.nilp) (.nilp)) := rfl
@[go_sem] theorem zSd (P : Program) (op : BinOp) (t : TypeId) (c : Bool)  : zxW P op t c (.nilp) (.nilp) = zxV P t c (.nilp) (.nilp) op := rfl
@[go_sem] theorem zT1 (P : Program) (t : TypeId) (c : Bool) (pb : Nm) (pg pr po : Nat) : deq P t c (.ptr pb pg pr po) (.nilp) = bnd (kOf P t) (zro c (.ptr pb pg pr po) (.nilp)) := rfl
@[go_sem] theorem zSc (P : Program) (op : BinOp) (t : TypeId) (c : Bool) (pb : Nm) (pg pr po : Nat) : zxW P op t c (.ptr pb pg pr po) (.nilp) = zxV P t c (.ptr pb pg pr po) (.nilp) op := rfl
@[go_sem] theorem zT0 (P : Program) (t : TypeId) (c : Bool) (pb : Nm) (pg pr po : Nat) : deq P t c (.nilp) (.ptr pb pg pr po) = bnd (kOf P t) (zro c (.nilp) (.ptr pb pg pr po)) := rfl
@[go_sem] theorem zSb (P : Program) (op : BinOp) (t : TypeId) (c : Bool) (pb : Nm) (pg pr po : Nat) : zxW P op t c (.nilp) (.ptr pb pg pr po) = zxV P t c (.nilp) (.ptr pb pg pr po) op := rfl
@[go_sem] theorem zTZ (P : Program) (t : TypeId) (c : Bool) (f f2 : Fl) (r r2 : List Row) : deq P t c (.sl f r) (.sl f2 r2) = bnd (kOf P t) (zro c (.sl f r) (.sl f2 r2)) := rfl
@[go_sem] theorem zSa (P : Program) (op : BinOp) (t : TypeId) (c : Bool) (f f2 : Fl) (r r2 : List Row) : zxW P op t c (.sl f r) (.sl f2 r2) = zxV P t c (.sl f r) (.sl f2 r2) op := rfl
@[go_sem] theorem zTY (P : Program) (t : TypeId) (c : Bool) (b : Nm) (g o l : Nat) (f : Fl) (r : List Row) : deq P t c (.own b g o l) (.sl f r) = bnd (kOf P t) (zro c (.own b g o l) (.sl f r)) := rfl
@[go_sem] theorem zR9 (P : Program) (op : BinOp) (t : TypeId) (c : Bool) (b : Nm) (g o l : Nat) (f : Fl) (r : List Row) : zxW P op t c (.own b g o l) (.sl f r) = zxV P t c (.own b g o l) (.sl f r) op := rfl
@[go_sem] theorem zTX (P : Program) (t : TypeId) (c : Bool)  : deq P t c (.nili) (.nili) = bnd (kOf P t) (zro c (.nili) (.nili)) := rfl
@[go_sem] theorem zR8 (P : Program) (op : BinOp) (t : TypeId) (c : Bool)  : zxW P op t c (.nili) (.nili) = zxV P t c (.nili) (.nili) op := rfl
@[go_sem] theorem zTW (P : Program) (t : TypeId) (c : Bool) (t2 : TypeId) (v : D) : deq P t c (.iface t2 v) (.nili) = bnd (kOf P t) (zro c (.iface t2 v) (.nili)) := rfl
@[go_sem] theorem zR7 (P : Program) (op : BinOp) (t : TypeId) (c : Bool) (t2 : TypeId) (v : D) : zxW P op t c (.iface t2 v) (.nili) = zxV P t c (.iface t2 v) (.nili) op := rfl
@[go_sem] theorem zTV (P : Program) (t : TypeId) (c : Bool) (t2 : TypeId) (v : D) : deq P t c (.nili) (.iface t2 v) = bnd (kOf P t) (zro c (.nili) (.iface t2 v)) := rfl
@[go_sem] theorem zR6 (P : Program) (op : BinOp) (t : TypeId) (c : Bool) (t2 : TypeId) (v : D) : zxW P op t c (.nili) (.iface t2 v) = zxV P t c (.nili) (.iface t2 v) op := rfl
@[go_sem] theorem zTU (P : Program) (t : TypeId) (c : Bool) (xs ys : List D) : deq P t c (.agg xs) (.agg ys) = bnd (ok (zvT P t)) fun _ => bnd (kOf P t) (zNH P xs ys) := rfl
@[go_sem] theorem zR5 (P : Program) (op : BinOp) (t : TypeId) (c : Bool) (xs ys : List D) : zxW P op t c (.agg xs) (.agg ys) = zxV P t c (.agg xs) (.agg ys) op := rfl
attribute [go_sem] zxW.eq_1 zxW.eq_2 zl3.eq_1 zl3.eq_2
@[go_sem] theorem zJm (k k2 : IntKind) (x y : Int) : zl3 k k2 x y .add = if k = k2 then zv3 k x y .add else none := rfl
@[go_sem] theorem zJb (k k2 : IntKind) (x y : Int) : zl3 k k2 x y .sub = if k = k2 then zv3 k x y .sub else none := rfl
@[go_sem] theorem zJf (k k2 : IntKind) (x y : Int) : zl3 k k2 x y .mul = if k = k2 then zv3 k x y .mul else none := rfl
@[go_sem] theorem zJd (k k2 : IntKind) (x y : Int) : zl3 k k2 x y .quo = if k = k2 then zv3 k x y .quo else none := rfl
@[go_sem] theorem zJc (k k2 : IntKind) (x y : Int) : zl3 k k2 x y .rem = if k = k2 then zv3 k x y .rem else none := rfl
@[go_sem] theorem zJl (k k2 : IntKind) (x y : Int) : zl3 k k2 x y .and = if k = k2 then zv3 k x y .and else none := rfl
@[go_sem] theorem zNF (k k2 : IntKind) (x y : Int) : zl3 k k2 x y .or = if k = k2 then zv3 k x y .or else none := rfl
@[go_sem] theorem zJa (k k2 : IntKind) (x y : Int) : zl3 k k2 x y .xor = if k = k2 then zv3 k x y .xor else none := rfl
@[go_sem] theorem zFW (k k2 : IntKind) (x y : Int) : zl3 k k2 x y .andNot = if k = k2 then zv3 k x y .andNot else none := rfl
@[go_sem] theorem zJk (k k2 : IntKind) (x y : Int) : zl3 k k2 x y .eql = if k = k2 then zv3 k x y .eql else none := rfl
@[go_sem] theorem zJe (k k2 : IntKind) (x y : Int) : zl3 k k2 x y .neq = if k = k2 then zv3 k x y .neq else none := rfl
@[go_sem] theorem zJg (k k2 : IntKind) (x y : Int) : zl3 k k2 x y .lss = if k = k2 then zv3 k x y .lss else none := rfl
@[go_sem] theorem zJh (k k2 : IntKind) (x y : Int) : zl3 k k2 x y .leq = if k = k2 then zv3 k x y .leq else none := rfl
@[go_sem] theorem zJi (k k2 : IntKind) (x y : Int) : zl3 k k2 x y .gtr = if k = k2 then zv3 k x y .gtr else none := rfl
@[go_sem] theorem zJj (k k2 : IntKind) (x y : Int) : zl3 k k2 x y .geq = if k = k2 then zv3 k x y .geq else none := rfl
@[go_sem] theorem zF1 (P : Program) (T : Nat) (f : Fl) (r : List Row) (e : TypeId) : zhw P T (.sl f r) (.slice e) .str = (do
  let ke ← M.lift (kOf P e)
  M.guard (zFP ke)
  let rs ← zpE (.sl f r)
  let bs ← M.lift (zju rs)
  pure (.str bs, [])) := rfl
@[go_sem] theorem zF0 (P : Program) (T : Nat) (b : Nm) (g o l : Nat) (e : TypeId) : zhw P T (.own b g o l) (.slice e) .str = (do
  let ke ← M.lift (kOf P e)
  M.guard (zFP ke)
  let rs ← zpE (.own b g o l)
  let bs ← M.lift (zju rs)
  pure (.str bs, [])) := rfl
attribute [go_sem] List.length_cons List.length_nil List.getElem?_cons_zero List.getElem?_cons_succ List.getElem?_nil List.take_succ_cons List.take_zero List.take_nil List.drop_succ_cons List.drop_zero List.drop_nil List.nil_append List.cons_append List.append_nil List.map_cons List.map_nil List.isEmpty_cons List.isEmpty_nil List.set_cons_zero List.set_cons_succ List.range_succ List.range_zero List.getD_cons_zero List.getD_cons_succ List.filter_cons List.filter_nil List.all_cons List.all_nil List.contains_cons List.contains_nil List.replicate List.getLast?_singleton
attribute [go_sem] ge_iff_le gt_iff_lt decide_true decide_false Bool.not_true Bool.not_false Bool.true_and Bool.and_true Bool.false_and Bool.and_false Bool.true_or Bool.or_true Bool.false_or Bool.or_false Bool.not_not Option.map_some Option.map_none Option.bind_some Option.bind_none Option.isSome_some Option.isSome_none Option.isNone_some Option.isNone_none
attribute [go_sem] M.run_pure M.run_ret M.run_fail M.run_peek M.run_lift M.run_guard M.run_ite zCv zEM
@[go_sem] theorem zHI (body : (Ex → St → Option Res) → St → Option Res) (k : Ex → St → Option Res) (s : St) : zc0 body k 0 s = none := rfl
structure Tok {α : Type} (a : α) : Type where
def zRK {α β : Type} (x : Option α) (f : α → Option β) (_ : Tok f) : Option β := bnd x f
@[go_sem ↓] theorem zT6 {α β : Type} (x : Option α) (f : α → Option β) : bnd x f = zRK x f ⟨⟩ := rfl
@[go_sem] theorem zNn {α β : Type} (a : α) (f : α → Option β) (t : Tok f) : zRK (some a) f t = f a := rfl
@[go_sem] theorem zNo {α β : Type} (f : α → Option β) (t : Tok f) : zRK none f t = none := rfl
def zNx {α : Type} (a b : Option α) (_ : Tok (a, b)) (d : Bool) : Option α := sel a b d
@[go_sem ↓] theorem zS5 {α : Type} (a b : Option α) (d : Bool) : sel a b d = zNx a b ⟨⟩ d := rfl
@[go_sem] theorem zIJ {α : Type} (a b : Option α) (t : Tok (a, b)) : zNx a b t true = a := rfl
@[go_sem] theorem zHq {α : Type} (a b : Option α) (t : Tok (a, b)) : zNx a b t false = b := rfl
def zRQ {α : Type} (a b : Option α) (_ : Tok (a, b)) (d : D) : Option α := onB a b d
@[go_sem ↓] theorem zS7 {α : Type} (a b : Option α) (d : D) : onB a b d = zRQ a b ⟨⟩ d := rfl
@[go_sem] theorem zIT {α : Type} (a b : Option α) (t : Tok (a, b)) (d : Bool) : zRQ a b t (.bool d) = zNx a b ⟨⟩ d := rfl
def zGg (k : D × Ups → Option Res) (_ : Tok k) (l : List (D × Ups)) : Option Res := ways k l
@[go_sem ↓] theorem zRO (k : D × Ups → Option Res) (l : List (D × Ups)) : ways k l = zGg k ⟨⟩ l := rfl
@[go_sem] theorem zIF (k : D × Ups → Option Res) (t : Tok k) (r : D × Ups) : zGg k t [r] = k r := rfl
def zDc (body : (Ex → St → Option Res) → St → Option Res) (k : Ex → St → Option Res) (n : Nat) (_ : Tok (body, k, n)) (s : St) : Option Res := zc0 body k n s
@[go_sem ↓] theorem zQx (body : (Ex → St → Option Res) → St → Option Res) (k : Ex → St → Option Res) (n : Nat) (s : St) : zc0 body k n s = zDc body k n ⟨⟩ s := rfl
def zGZ (C : Cfg) (call : FuncId → List D → List Blk → Option Res) (ops : Array Oper) (k : St → Option Res) (l : List Oper) (_ : Tok (C, call, ops, k, l)) (s : St) : Option Res := zDY C call ops k l s
@[go_sem ↓] theorem zR4 (C : Cfg) (call : FuncId → List D → List Blk → Option Res) (ops : Array Oper) (k : St → Option Res) (l : List Oper) (s : St) : zDY C call ops k l s = zGZ C call ops k l ⟨⟩ s := rfl
@[go_sem] theorem zI9 (C : Cfg) (call : FuncId → List D → List Blk → Option Res) (ops : Array Oper) (k : St → Option Res) (t : Tok (C, call, ops, k, [])) (s : St) : zGZ C call ops k [] t s = k s := rfl
@[go_sem] theorem zHG (C : Cfg) (call : FuncId → List D → List Blk → Option Res) (ops : Array Oper) (k : St → Option Res) (o : Oper) (l : List Oper) (t : Tok (C, call, ops, k, o :: l)) (s : St) : zGZ C call ops k (o :: l) t s =
 bnd (ziL ops s.env o.guard) fun b =>
  sel (bnd ((dop C call (opd s.env) o.dst o.op).run s.mem []) fun p => ways (fun r => zDY C call ops k l (s.put o.dst r)) p.1)
   (zDY C call ops k l (s.put o.dst (zkc, []))) b := rfl
def zGX (C : Cfg) (call : FuncId → List D → List Blk → Option Res) (ops : Array Oper) (i : Nat) (l : List Oper) (_ : Tok (C, call, ops, i, l)) (s : St) : Option (St × List zwv) := zE6 C call ops i l s
@[go_sem ↓] theorem zR3 (C : Cfg) (call : FuncId → List D → List Blk → Option Res) (ops : Array Oper) (i : Nat) (l : List Oper) (s : St) : zE6 C call ops i l s = zGX C call ops i l ⟨⟩ s := rfl
@[go_sem] theorem zI8 (C : Cfg) (call : FuncId → List D → List Blk → Option Res) (ops : Array Oper) (i : Nat) (t : Tok (C, call, ops, i, [])) (s : St) : zGX C call ops i [] t s = some (s, []) := rfl
@[go_sem] theorem zHF (C : Cfg) (call : FuncId → List D → List Blk → Option Res) (ops : Array Oper) (i : Nat) (o : Oper) (l : List Oper) (t : Tok (C, call, ops, i, o :: l)) (s : St) : zGX C call ops i (o :: l) t s =
 bnd (bnd (ziL ops s.env o.guard) fun b =>
  sel (bnd ((dop C call (opd s.env) o.dst o.op).run s.mem []) (zw2 s o.dst)) (some ⟨s.put o.dst (zkc, []), [], []⟩) b)
  fun t => bnd (zE6 C call ops (i + 1) l t.st) fun q => some (q.1, (i, t.rd, t.wr) :: q.2) := rfl
def zn5 (C : Cfg) (call : FuncId → List D → List Blk → Option Res) (n : Nat) (c : Code) (k : Ex → St → Option Res) (_ : Tok (C, call, n, c, k)) (s : St) : Option Res := zbX C call n c k s
@[go_sem ↓] theorem zQz (C : Cfg) (call : FuncId → List D → List Blk → Option Res) (n : Nat) (c : Code) (k : Ex → St → Option Res) (s : St) : zbX C call n c k s = zn5 C call n c k ⟨⟩ s := rfl
section
variable (C : Cfg) (call : FuncId → List D → List Blk → Option Res) (n : Nat) (k : Ex → St → Option Res) (s : St)
@[go_sem] theorem zG1 (t : Tok (C, call, n, Code.skip, k)) : zn5 C call n .skip k t s = k .normal s := rfl
@[go_sem] theorem zF3 (l : Nat) (t : Tok (C, call, n, Code.label l, k)) : zn5 C call n (.label l) k t s = k .normal s := rfl
@[go_sem] theorem zF2 (i : Nat) (l : List Oper) (t : Tok (C, call, n, Code.region i l.toArray false, k)) : zn5 C call n (.region i l.toArray false) k t s = zDY C call l.toArray (k .normal) l s := rfl
@[go_sem] theorem zG4 (i : Nat) (l : List Oper) (t : Tok (C, call, n, Code.region i l.toArray true, k)) : zn5 C call n (.region i l.toArray true) k t s = bnd (zE6 C call l.toArray 0 l s) fun q => bnd (ok (zFi l.toArray q.2)) fun _ => k .normal q.1 := rfl
@[go_sem] theorem zHL (a b : Code) (t : Tok (C, call, n, Code.seq a b, k)) : zn5 C call n (.seq a b) k t s = zbX C call n a (fun ex s' => match ex with
 | .normal => zbX C call n b k s'
 | e => k e s') s := rfl
@[go_sem] theorem zG5 (c : Operand) (a b : Code) (t : Tok (C, call, n, Code.cond c a b, k)) : zn5 C call n (.cond c a b) k t s = onB (zbX C call n a k s) (zbX C call n b k s) (opd s.env c) := rfl
@[go_sem] theorem zF4 (i : Nat) (a : Code) (t : Tok (C, call, n, Code.block i a, k)) : zn5 C call n (.block i a) k t s = zbX C call n a (fun ex s' => match ex with
 | .exit j => if j = i then k .normal s' else k (.exit j) s'
 | e => k e s') s := rfl
@[go_sem] theorem zG2 (a : Code) (t : Tok (C, call, n, Code.loop a, k)) : zn5 C call n (.loop a) k t s = zc0 (zbX C call n a) k n s := rfl
@[go_sem] theorem zG3 (i : Nat) (t : Tok (C, call, n, Code.exit i, k)) : zn5 C call n (.exit i) k t s = k (.exit i) s := rfl
@[go_sem] theorem zHM (t : Tok (C, call, n, Code.ret, k)) : zn5 C call n .ret k t s = k .ret s := rfl
end
def zQh (a : Bool) (b : Unit → Bool) (_ : Tok b) : Bool := orl a b
@[go_sem ↓] theorem zS6 (a : Bool) (b : Unit → Bool) : orl a b = zQh a b ⟨⟩ := rfl
@[go_sem] theorem zIP (b : Unit → Bool) (t : Tok b) : zQh true b t = true := rfl
@[go_sem] theorem zHy (b : Unit → Bool) (t : Tok b) : zQh false b t = b () := rfl
def zNp {α β : Type} (x : M α) (f : α → M β) (_ : Tok f) : M β := x >>= f
@[go_sem ↓] theorem zSl {α β : Type} (x : M α) (f : α → M β) : (x >>= f) = zNp x f ⟨⟩ := rfl
@[go_sem] theorem zIK {α β : Type} (m : Mem) (l : List Nm) (x : M α) (f : α → M β) (t : Tok f) : (zNp x f t).run m l = bnd (x.run m l) fun p => (f p.1).run m p.2 := M.run_bind m l x f
@[go_sem] theorem zQH {α : Type} (l : List α) : cut l 0 l.length = l := by simp [cut]
@[go_sem] theorem zQG {α : Type} (a b : Nat) : cut ([] : List α) a b = [] := by simp [cut]
@[go_sem] theorem zJt {α : Type} (a : α) (l : List α) (n : Nat) : cut (a :: l) 0 (n + 1) = a :: cut l 0 n := by
  simp only [cut, List.length_cons, List.drop_zero, List.take_succ_cons, true_and]
  by_cases h : n = l.length
  · simp [h]
  · rw [if_neg (by omega), if_neg h]
@[go_sem] theorem zNN {α : Type} (l : List α) (a : Nat) : cut l a 0 = [] := by
  unfold cut; split
  · rename_i h; exact List.eq_nil_of_length_eq_zero h.2.symm
  · simp
@[go_sem] theorem zNO {α : Type} (a : α) (l : List α) (k n : Nat) : cut (a :: l) (k + 1) n = (l.drop k).take n := by simp [cut]
@[go_sem] theorem zNz {α : Type} (a : α) (l new : List α) (k : Nat) : put (a :: l) (k + 1) new = a :: put l k new := by
  simp [put, Nat.add_right_comm]
@[go_sem] theorem zIN {α : Type} (a b : α) (l new : List α) : put (a :: l) 0 (b :: new) = b :: put l 0 new := by simp [put]
@[go_sem] theorem zIM {α : Type} (l : List α) : put l 0 [] = l := by simp [put]
end Go.Ev
namespace Go.Ev
structure Sl (α : Type) where
 fl : Fl
 l : List α
abbrev Str := List UInt8
def Sl.nil {α : Type} : Sl α := ⟨.nil, []⟩
def Sl.of {α : Type} (l : List α) : Sl α := ⟨.any, l⟩
def cI (k : IntKind) (n : Int) : List D := [.int k n]
def zpm (s : Str) : List D := [.str s]
def dSl {α : Type} (c : α → List D) (s : Sl α) : D := .sl s.fl (s.l.map c)
def cSl {α : Type} (c : α → List D) (s : Sl α) : List D := [dSl c s]
theorem zb5 (a b : List D) : zby (a ++ b) = (zby a && zby b) := by
 induction a with
 | nil => simp [zby]
 | cons x a ih => simp [zby, ih, Bool.and_assoc]
theorem zbS (a b : List D) : zaJ (a ++ b) = (zaJ a && zaJ b) := by
 induction a with
 | nil => simp [zaJ]
 | cons x a ih => simp [zaJ, ih, Bool.and_assoc]
theorem zdi (a b : List D) : zkO (a ++ b) = zkO a ++ zkO b := by
 induction a with
 | nil => simp [zkO]
 | cons x a ih => simp [zkO, ih, List.append_assoc]
theorem zdh (ρ : Nm → Option (Nm × Nat)) (a b : List D) : zkh ρ (a ++ b) = (zkh ρ a).bind fun x => (zkh ρ b).map fun y => x ++ y := by
 induction a with
 | nil => simp [zkh]
 | cons x a ih =>
   simp only [List.cons_append, zkh, ih]
   cases ren ρ x <;> simp
   cases zkh ρ a <;> simp
   cases zkh ρ b <;> simp
theorem zrY {d : D} (h : still d = true) : ∀ n, zhv n d = pure (d, []) := by
 cases d <;> simp_all [still] <;> intro n <;> cases n <;> rfl
theorem zhH {l : List D} {n : Nat} (h : zaJ l = true) : zeW (zhv n) l = pure (l, []) := by
 induction l with
 | nil => rfl
 | cons d l ih =>
   simp only [zaJ, Bool.and_eq_true] at h
   simp only [zeW, zrY h.1, ih h.2]
   rfl
@[go_sem] theorem zG6 {α : Type} (c : α → List D) (s : Sl α) : cellsOf (dSl c s) = [dSl c s] := rfl
@[go_sem] theorem zNM {α : Type} (c : α → List D) (s : Sl α) : cell (dSl c s) = true := rfl
@[go_sem] theorem zJq {α : Type} (c : α → List D) (s : Sl α) : still (dSl c s) = true := rfl
@[go_sem] theorem zQF {α : Type} (c : α → List D) (s : Sl α) : ids (dSl c s) = [] := rfl
@[go_sem] theorem zQC {α : Type} (ρ : Nm → Option (Nm × Nat)) (c : α → List D) (s : Sl α) : ren ρ (dSl c s) = some (dSl c s) := rfl
@[go_sem] theorem zJr {α : Type} (n : Nat) (c : α → List D) (s : Sl α) : zhv n (dSl c s) = pure (dSl c s, []) := zrY rfl n
@[go_sem] theorem zQE {α : Type} (c : α → List D) (s : Sl α) (e : TypeId) : zv2 (dSl c s) (.slice e) = pure (.int .i64 s.l.length) := by
  simp [dSl, zv2]
end Go.Ev
namespace Go.Ev
noncomputable def okP (p : Prop) : Option Unit := open Classical in if p then some () else none
theorem zIH {a n : Nat} (h : a + 1 ≤ n) : ∃ m, n = m + 1 := ⟨n - 1, by omega⟩
theorem zah {p : Prop} {u : Unit} (h : okP p = some u) : p := by
 unfold okP at h; split at h
 · assumption
 · cases h
theorem zav {p : Prop} (h : p) : okP p = some () := by unfold okP; rw [if_pos h]
def ix {α : Type} (l : List α) (i : Int) : Option α := if 0 ≤ i then l[i.toNat]? else none
theorem zbK {α : Type} {l : List α} {i : Int} {y : α} (h : ix l i = some y) : decide (0 ≤ i) = true ∧ l[i.toNat]? = some y := by
 unfold ix at h; split at h
 · exact ⟨by simpa, h⟩
 · cases h
theorem zbs {α β : Type} {l : List α} {i : Nat} {y : α} (h : l[i]? = some y) (c : α → β) : (l.map c)[i]? = some (c y) := by
 rw [List.getElem?_map, h]; rfl
inductive Out (R S : Type) where
 | ret (r : R)
 | done (s : S)
def zkl {R S β : Type} (o : Option (Out R S)) (f : R → Option β) (g : S → Option β) : Option β :=
 match o with
 | some (.ret r) => f r
 | some (.done s) => g s
 | none => none
theorem zbj {R S β : Type} {o : Option (Out R S)} {f : R → Option β} {g : S → Option β} {b : β} (h : zkl o f g = some b) :
 (∃ r, o = some (.ret r) ∧ f r = some b) ∨ ∃ s, o = some (.done s) ∧ g s = some b := by
 match o, h with
 | some (.ret r), h => exact .inl ⟨r, rfl, h⟩
 | some (.done s), h => exact .inr ⟨s, rfl, h⟩
theorem zae {α : Type} {A B : Option α} {b : Bool} {r : α} (h : sel A B b = some r) : (b = true ∧ A = some r) ∨ (b = false ∧ B = some r) := by
 cases b
 · exact .inr ⟨rfl, h⟩
 · exact .inl ⟨rfl, h⟩
theorem zcK {a b : Bool} (h : (a && b) = true) : a = true ∧ b = true := by simpa using h
theorem zcd {a b : Bool} (h : (a && b) = false) : a = false ∨ (a = true ∧ b = false) := by cases a <;> simp_all
theorem zeP {a b : Bool} (h : (a || b) = true) : a = true ∨ (a = false ∧ b = true) := by cases a <;> simp_all
theorem zca {a b : Bool} (h : (a || b) = false) : a = false ∧ b = false := by simpa using h
theorem zar {a : Bool} (h : (!a) = true) : a = false := by simpa using h
theorem zan {a : Bool} (h : (!a) = false) : a = true := by simpa using h
def Ev (C : Cfg) (f : FuncId) (args : List D) (d : D) : Prop := ∃ N, ∀ n, N ≤ n → dfn C n f args [] = some ⟨d, [], []⟩
def zcS (d : D) (m : Mem) (T sz : Nat) (cells : List D) : Prop := ∃ g, d = .ptr (.loc T 0) g 0 0 ∧ m (.loc T 0) = some (.rows g false true sz [cells])
def zxT (d : D) (m : Mem) (T sz : Nat) (cells : List D) : Prop := ∃ g, d = .ptr (.loc T 0) g 0 0 ∧ m (.loc T 0) = some (.rows g false false sz [cells])
theorem zaB (body : (Ex → St → Option Res) → St → Option Res) (k : Ex → St → Option Res) (n : Nat) (s : St) : zc0 body k (n + 1) s = body (fun ex s' => match ex with
 | .normal => zc0 body k n s'
 | e => k e s') s := rfl
theorem zai {body : (Ex → St → Option Res) → St → Option Res} {k : Ex → St → Option Res} {n : Nat} {s : St} {t : Tok (body, k, n)} {R : Option Res} (h : zc0 body k n s = R) : zDc body k n t s = R := h
def zIU (C : Cfg) (call : FuncId → List D → List Blk → Option Res) (n : Nat) (c : Code) (k : Ex → St → Option Res) (_ : Tok (C, call, n, c, k)) (s : St) : Option Res := zbX C call n c k s
theorem zg5 {C : Cfg} {call : FuncId → List D → List Blk → Option Res} {n : Nat} {c : Code} {k : Ex → St → Option Res} {t : Tok (C, call, n, c, k)} {s : St} {R : Option Res} (h : zbX C call n c k s = R) : zIU C call n c k t s = R := h
theorem zgq (C : Cfg) (call : FuncId → List D → List Blk → Option Res) (n : Nat) (c : Code) : ∀ (k : Ex → St → Option Res) (s : St), zbX C call n c k s = zIU C call n c k ⟨⟩ s := fun _ _ => rfl
def zxD : Code → List Nat → Code
 | .seq a b, i :: p => zxD (if i = 0 then a else b) p
 | .cond _ a b, i :: p => zxD (if i = 0 then a else b) p
 | .block _ a, _ :: p => zxD a p
 | .loop a, _ :: p => zxD a p
 | c, _ => c
def zb4 (f : Func) (p : List Nat) : Code := zxD (f.body.getD .skip) p
theorem zCf {α : Type} {l new : List α} {n : Nat} (h : l.length = n) (k : new.length = n) : put l 0 new = new := by
 unfold put; simp [h, k]
attribute [go_sem] cI zpm cSl List.length_map
attribute [go_sem] List.getElem?_toArray Nm.loc.injEq Nm.arg.injEq false_and and_false true_and and_true and_self List.elem_cons List.elem_nil beq_self_eq_true List.contains_cons Bool.true_beq Bool.false_beq ite_self Bool.false_eq_true
@[go_sem] theorem zRR (x y : Nm) : (x == y) = decide (x = y) := rfl
@[go_sem] theorem zSn (b : Bool) : (b == true) = b := by cases b <;> rfl
@[go_sem] theorem zSo (b : Bool) : (b == false) = !b := by cases b <;> rfl
@[go_sem] theorem zHC : (Fl.nil != Fl.any) = true := rfl
@[go_sem] theorem zGW : (Fl.full != Fl.any) = true := rfl
@[go_sem] theorem zHD : (Fl.any != Fl.any) = false := rfl
@[go_sem] theorem zSf {α : Type} (c : α → List D) (f : Fl) (l : List α) : dSl c ⟨f, l⟩ = .sl f (l.map c) := rfl
@[go_sem] theorem zQD {α : Type} (c : α → List D) : dSl c Sl.nil = .sl .nil [] := rfl
@[go_sem] theorem zJs {α : Type} (ti : TI) (n : Int) (c : α → List D) (s : Sl α) : zl4 ti n (dSl c s) = (do
 M.guard (decide (0 ≤ n))
 let row ← M.lift (s.l.map c)[n.toNat]?
 M.guard (decide (row.length = ti.size))
 pure (.eptr row 0)) := rfl
def s2b (s : Str) : List Int := s.map fun b => (b.toNat : Int)
def b2s (l : List Int) : Str := l.map fun n => UInt8.ofNat n.toNat
theorem zHh (s : Str) : b2s (s2b s) = s := by
 induction s with
 | nil => rfl
 | cons b s ih =>
   simp only [s2b, b2s, List.map_cons, List.cons.injEq] at ih ⊢
   exact ⟨by simp, ih⟩
theorem zvp (s : Str) : s.map zhM = (s2b s).map (cI .u8) := by simp [s2b, zhM, cI, Function.comp_def]
theorem zr7 (l : List Int) : zju (l.map (cI .u8)) = some (b2s l) := by
 induction l with
 | nil => rfl
 | cons n l ih => simp only [List.map_cons, zju, ih, b2s]; rfl
@[go_sem] theorem zQb (n : Int) (l : List Int) : b2s (n :: l) = UInt8.ofNat n.toNat :: b2s l := rfl
@[go_sem] theorem zRL : b2s [] = [] := rfl
@[go_sem] theorem zFa (P : Program) (T : Nat) (s : Sl Int) (e : TypeId) : zhw P T (dSl (cI .u8) s) (.slice e) .str = (do
  let ke ← M.lift (kOf P e)
  M.guard (zFP ke)
  pure (.str (b2s s.l), [])) := by
  have h : zhw P T (dSl (cI .u8) s) (.slice e) .str = (do
   let ke ← M.lift (kOf P e)
   M.guard (zFP ke)
   let bs ← M.lift (zju (s.l.map (cI .u8)))
   pure (.str bs, [])) := rfl
  rw [h, zr7]; rfl
def zwD (s : Str) (lo hi : Option Int) : Option Str :=
 let h := hi.getD s.length
 let l := lo.getD 0
 if 0 ≤ h ∧ h ≤ s.length ∧ 0 ≤ l ∧ l ≤ h then some (cut s l.toNat (h.toNat - l.toNat)) else none
def zuC {α : Type} (s : Sl α) (lo hi : Option Int) : Option (Sl α) :=
 let h := hi.getD s.l.length
 let l := lo.getD 0
 if 0 ≤ h ∧ h ≤ s.l.length ∧ 0 ≤ l ∧ l ≤ h then some ⟨ziI s.fl (h.toNat == s.l.length), cut s.l l.toNat (h.toNat - l.toNat)⟩ else none
theorem zG7 {α β : Type} (f : α → β) (l : List α) (a b : Nat) : cut (l.map f) a b = (cut l a b).map f := by
 unfold cut; simp only [List.length_map]; split
 · rfl
 · simp [List.map_take, List.map_drop]
theorem zAs {α : Type} {c : α → List D} {n : Nat} (h : ∀ x, (c x).length = n) (l : List α) : zni n (l.map c) = true := by
 simp [zni, h]
def odI (i : Option Int) : Option D := i.map fun n => .int .i64 n
theorem zDv {d top : Nat} {k : IntKind} {n : Int} (h1 : 0 ≤ n) (h2 : n ≤ (top : Int)) : bound d top (some (.int k n)) = some n.toNat := by
 show bnd (ok (decide (0 ≤ n) && decide (n ≤ (top : Int)))) _ = _
 rw [decide_eq_true h1, decide_eq_true h2]; rfl
theorem zqF {d top : Nat} {i : Option Int} (h1 : 0 ≤ i.getD d) (h2 : i.getD d ≤ (top : Int)) : bound d top (odI i) = some (i.getD d).toNat := by
 cases i with
 | none => simp [odI, bound]
 | some n => exact zDv h1 h2
theorem zjN {s : Str} {lo hi : Option Int} {r : Str} (h : zwD s lo hi = some r) (P : Program) : zeC P (odI lo) (odI hi) none (.str s) .str = pure (.str r) := by
 unfold zwD at h
 simp only at h
 split at h
 · rename_i hc
   obtain ⟨h1, h2, h3, h4⟩ := hc
   cases h
   have eh : bound s.length s.length (odI hi) = some (hi.getD s.length).toNat := zqF h1 h2
   have el : bound 0 (hi.getD s.length).toNat (odI lo) = some (lo.getD 0).toNat := by
    have := zqF (d := 0) (i := lo) (top := (hi.getD s.length).toNat) (by simpa using h3) (by simp only [Int.ofNat_eq_natCast, Int.natCast_zero]; omega)
    simpa using this
   show (M.lift (bound s.length s.length (odI hi)) >>= fun h => M.lift (bound 0 h (odI lo)) >>= fun l => pure (D.str (cut s l (h - l)))) = _
   rw [eh]
   show (M.lift (bound 0 (hi.getD s.length).toNat (odI lo)) >>= fun l => pure (D.str (cut s l ((hi.getD s.length).toNat - l)))) = _
   rw [el]; rfl
 · cases h
theorem zk7 {α : Type} {c : α → List D} {s : Sl α} {lo hi : Option Int} {r : Sl α} (h : zuC s lo hi = some r) {P : Program} {e : TypeId} {ti : TI} (ht : zcG P e = some ti) (hl : ∀ x, (c x).length = ti.size) :
 zeC P (odI lo) (odI hi) none (dSl c s) (.slice e) = pure (dSl c r) := by
 unfold zuC at h
 simp only at h
 split at h
 · rename_i hc
   obtain ⟨h1, h2, h3, h4⟩ := hc
   cases h
   have eh : bound (s.l.map c).length (s.l.map c).length (odI hi) = some (hi.getD s.l.length).toNat := by
    rw [List.length_map]; exact zqF h1 h2
   have el : bound 0 (hi.getD s.l.length).toNat (odI lo) = some (lo.getD 0).toNat := by
    have := zqF (d := 0) (i := lo) (top := (hi.getD s.l.length).toNat) (by simpa using h3) (by simp only [Int.ofNat_eq_natCast, Int.natCast_zero]; omega)
    simpa using this
   have hle : decide ((hi.getD s.l.length).toNat ≤ (s.l.map c).length) = true := decide_eq_true (by simp; omega)
   show (M.lift (zcG P e) >>= fun ti => M.lift (bound (s.l.map c).length (s.l.map c).length (odI hi)) >>= fun h => M.guard (decide (h ≤ (s.l.map c).length)) >>= fun _ => M.lift (bound 0 h (odI lo)) >>= fun l =>
    M.guard (decide (l = 0) || zni ti.size (s.l.map c)) >>= fun _ => pure (D.sl (ziI s.fl (h == (s.l.map c).length)) (cut (s.l.map c) l (h - l)))) = _
   rw [ht, eh]
   show (M.guard (decide ((hi.getD s.l.length).toNat ≤ (s.l.map c).length)) >>= fun _ => M.lift (bound 0 (hi.getD s.l.length).toNat (odI lo)) >>= fun l =>
    M.guard (decide (l = 0) || zni ti.size (s.l.map c)) >>= fun _ => pure (D.sl (ziI s.fl ((hi.getD s.l.length).toNat == (s.l.map c).length)) (cut (s.l.map c) l ((hi.getD s.l.length).toNat - l)))) = _
   rw [hle, el]
   show (M.guard (decide ((lo.getD 0).toNat = 0) || zni ti.size (s.l.map c)) >>= fun _ => pure (D.sl (ziI s.fl ((hi.getD s.l.length).toNat == (s.l.map c).length)) (cut (s.l.map c) (lo.getD 0).toNat ((hi.getD s.l.length).toNat - (lo.getD 0).toNat)))) = _
   rw [zAs hl, Bool.or_true, zG7, List.length_map]; rfl
 · cases h
@[go_sem] theorem zHa {α : Type} {l : List α} {n : Nat} (h : l.length = n) : cut l 0 n = l := by subst h; simp [cut]
def Sl.out {α : Type} : List α → Sl α
 | [] => Sl.nil
 | a :: l => ⟨.any, a :: l⟩
@[go_sem] theorem Sl.out_nil {α : Type} : Sl.out ([] : List α) = Sl.nil := rfl
@[go_sem] theorem Sl.out_ne {α : Type} {l : List α} (h : (l = []) = False) : Sl.out l = ⟨.any, l⟩ := by
  cases l with
  | nil => simp at h
  | cons a l => rfl
@[simp] theorem Sl.out_l {α : Type} (l : List α) : (Sl.out l).l = l := by cases l <;> rfl
@[simp] theorem Sl.of_l {α : Type} (l : List α) : (Sl.of l).l = l := rfl
@[simp] theorem Sl.nil_l {α : Type} : (Sl.nil : Sl α).l = [] := rfl
def zoU {α : Type} (d : D) (m : Mem) (Ts : List Nat) (sz : Nat) (c : α → List D) (l : List α) : Prop :=
 (d = .sl .nil [] ∧ l = []) ∨ ∃ T, T ∈ Ts ∧ ∃ g, d = .own (.loc T 0) g 0 l.length ∧ m (.loc T 0) = some (.rows g false true sz (l.map c)) ∧ (l = []) = False
def zHo {α : Type} (d : D) (m : Mem) (T sz : Nat) (c : α → List D) (l : List α) : Prop :=
 ∃ g, d = .own (.loc T 0) g 0 l.length ∧ m (.loc T 0) = some (.rows g false true sz (l.map c))
def zwq {α : Type} (d : D) (m : Mem) (Ts : List Nat) (sz : Nat) (c : α → List D) (r : Sl α) : Prop :=
 d = dSl c r ∨ ∃ T, T ∈ Ts ∧ ∃ l, r = Sl.of l ∧ ∃ g, d = .own (.loc T 0) g 0 l.length ∧ m (.loc T 0) = some (.rows g false true sz (l.map c))
def ltn (a b : Nat) : Bool := decide (a < b)
theorem zGG {a b : Nat} (h : ltn a b = true) : a < b := of_decide_eq_true h
theorem zGH {a b : Nat} (h : ltn a b = false) : ¬ a < b := of_decide_eq_false h
def ztS (d : D) (m : Mem) (T : Nat) (s : Str) (pos : Nat) : Prop := ∃ g, d = .iter (.loc T 0) g ∧ m (.loc T 0) = some (.siter g s pos)
def zDL {α : Type} (e6 : D) (m : Mem) (T sz : Nat) (cells : D → List D) (Ts : List Nat) (esz : Nat) (c : α → List D) (l : List α) : Prop :=
 ∃ g cl d, e6 = .ptr (.loc T 0) g 0 0 ∧ m (.loc T 0) = some (.rows g false cl sz [cells d]) ∧ zoU d m Ts esz c l
def zAh {α : Type} (e6 : D) (m : Mem) (T sz : Nat) (cells : D → List D) (Ts : List Nat) (esz : Nat) (c : α → List D) (r : Sl α) : Prop :=
 ∃ g cl d, e6 = .ptr (.loc T 0) g 0 0 ∧ m (.loc T 0) = some (.rows g false cl sz [cells d]) ∧ zwq d m Ts esz c r
def zE3 {α : Type} (l : List α) (g : Nat) : D := open Classical in if l = [] then .sl .nil [] else .own (.loc 0 0) g 0 l.length
def zE4 {α : Type} (g sz : Nat) (c : α → List D) (l : List α) : List Blk := open Classical in if l = [] then [] else [.rows g false true sz (l.map c)]
@[go_sem] theorem zNy {α : Type} {l new : List α} (h : l.length = new.length) : put l 0 new = new := zCf h rfl
attribute [go_sem] Nat.zero_add Nat.add_zero Nat.le_refl eq_self room List.length_append List.append_eq_nil_iff List.map_append Sl.of zvp zr7
end Go.Ev
set_option linter.unusedSimpArgs false
namespace Go.Ev
structure Val where
 kind : Int
 int : Int
 text : Str
def Val.setKind : Val → Int → Val
 | .mk _ x1 x2, v => .mk v x1 x2
def Val.setInt : Val → Int → Val
 | .mk x0 _ x2, v => .mk x0 v x2
def Val.setText : Val → Str → Val
 | .mk x0 x1 _, v => .mk x0 x1 v
def Val.zero : Val := .mk 0 0 []
def zfR (x : Val) : List D := ([(.int .i64 x.kind)]) ++ ([(.int .i64 x.int)]) ++ ([(.str x.text)])
theorem zbY (x : Val) : zfR x = ([(.int .i64 x.kind)]) ++ ([(.int .i64 x.int)]) ++ ([(.str x.text)]) := rfl
@[go_sem] theorem Val.setKind_kind (x : Val) (v : Int) : (x.setKind v).kind = v := by cases x; rfl
@[go_sem] theorem Val.setKind_int (x : Val) (v : Int) : (x.setKind v).int = x.int := by cases x; rfl
@[go_sem] theorem Val.setKind_text (x : Val) (v : Int) : (x.setKind v).text = x.text := by cases x; rfl
@[go_sem] theorem Val.setInt_kind (x : Val) (v : Int) : (x.setInt v).kind = x.kind := by cases x; rfl
@[go_sem] theorem Val.setInt_int (x : Val) (v : Int) : (x.setInt v).int = v := by cases x; rfl
@[go_sem] theorem Val.setInt_text (x : Val) (v : Int) : (x.setInt v).text = x.text := by cases x; rfl
@[go_sem] theorem Val.setText_kind (x : Val) (v : Str) : (x.setText v).kind = x.kind := by cases x; rfl
@[go_sem] theorem Val.setText_int (x : Val) (v : Str) : (x.setText v).int = x.int := by cases x; rfl
@[go_sem] theorem Val.setText_text (x : Val) (v : Str) : (x.setText v).text = v := by cases x; rfl
@[go_sem] theorem zzG (x : Val) : (zfR x).length = 3 := by simp [zbY]
@[go_sem] theorem zr9 (x : Val) : zby (zfR x) = true := by simp [zbY, zb5, zby, cell, dSl]
@[go_sem] theorem zmT (x : Val) : zaJ (zfR x) = true := by simp [zbY, zbS, zaJ, still, dSl]
@[go_sem] theorem zxd (x : Val) : zkO (zfR x) = [] := by simp [zbY, zdi, zkO, ids, dSl]
@[go_sem] theorem zwQ (ρ : Nm → Option (Nm × Nat)) (x : Val) : zkh ρ (zfR x) = some (zfR x) := by simp [zbY, zdh, zkh, ren, dSl]
@[go_sem] theorem zHw (n : Nat) (x : Val) : zeW (zhv n) (zfR x) = pure (zfR x, []) := zhH (zmT x)
@[go_sem] theorem Val.zero_kind : Val.zero.kind = 0 := rfl
@[go_sem] theorem Val.zero_int : Val.zero.int = 0 := rfl
@[go_sem] theorem Val.zero_text : Val.zero.text = [] := rfl
@[go_sem] theorem zJn (P : Program) (x y : Val) (k : List (TypeId × Nat)) : zfc P k (zfR x) (zfR y) = zfc P k [(.int .i64 x.kind), (.int .i64 x.int), (.str x.text)] [(.int .i64 y.kind), (.int .i64 y.int), (.str y.text)] := rfl
@[go_sem] theorem zF6 (x : Val) : cut (zfR x) 0 1 = [(.int .i64 x.kind)] := by
  simp [cut, zbY]
@[go_sem] theorem zFF (x : Val) (v : Int) : put (zfR x) 0 ([(.int .i64 v)]) = zfR (x.setKind v) := by
  simp [put, zbY, Val.setKind_kind, Val.setKind_int, Val.setKind_text]
@[go_sem] theorem zHb (x : Val) : cut (zfR x) 1 1 = [(.int .i64 x.int)] := by
  simp [cut, zbY]
@[go_sem] theorem zGv (x : Val) (v : Int) : put (zfR x) 1 ([(.int .i64 v)]) = zfR (x.setInt v) := by
  simp [put, zbY, Val.setInt_kind, Val.setInt_int, Val.setInt_text]
@[go_sem] theorem zF5 (x : Val) : cut (zfR x) 2 1 = [(.str x.text)] := by
  simp [cut, zbY]
@[go_sem] theorem zFE (x : Val) (v : Str) : put (zfR x) 2 ([(.str v)]) = zfR (x.setText v) := by
  simp [put, zbY, Val.setText_kind, Val.setText_int, Val.setText_text]
structure zcc where
 table : Int
 seq : Int
def zcc.setTable : zcc → Int → zcc
 | .mk _ x1, v => .mk v x1
def zcc.setSeq : zcc → Int → zcc
 | .mk x0 _, v => .mk x0 v
def zcc.zero : zcc := .mk 0 0
def ze6 (x : zcc) : List D := ([(.int .i64 x.table)]) ++ ([(.int .i64 x.seq)])
theorem zbE (x : zcc) : ze6 x = ([(.int .i64 x.table)]) ++ ([(.int .i64 x.seq)]) := rfl
@[go_sem] theorem zcc.setTable_table (x : zcc) (v : Int) : (x.setTable v).table = v := by cases x; rfl
@[go_sem] theorem zcc.setTable_seq (x : zcc) (v : Int) : (x.setTable v).seq = x.seq := by cases x; rfl
@[go_sem] theorem zcc.setSeq_table (x : zcc) (v : Int) : (x.setSeq v).table = x.table := by cases x; rfl
@[go_sem] theorem zcc.setSeq_seq (x : zcc) (v : Int) : (x.setSeq v).seq = v := by cases x; rfl
@[go_sem] theorem zAU (x : zcc) : (ze6 x).length = 2 := by simp [zbE]
@[go_sem] theorem zum (x : zcc) : zby (ze6 x) = true := by simp [zbE, zb5, zby, cell, dSl]
@[go_sem] theorem zoc (x : zcc) : zaJ (ze6 x) = true := by simp [zbE, zbS, zaJ, still, dSl]
@[go_sem] theorem zyP (x : zcc) : zkO (ze6 x) = [] := by simp [zbE, zdi, zkO, ids, dSl]
@[go_sem] theorem zys (ρ : Nm → Option (Nm × Nat)) (x : zcc) : zkh ρ (ze6 x) = some (ze6 x) := by simp [zbE, zdh, zkh, ren, dSl]
@[go_sem] theorem zFC (n : Nat) (x : zcc) : zeW (zhv n) (ze6 x) = pure (ze6 x, []) := zhH (zoc x)
@[go_sem] theorem zcc.zero_table : zcc.zero.table = 0 := rfl
@[go_sem] theorem zcc.zero_seq : zcc.zero.seq = 0 := rfl
@[go_sem] theorem zG0 (P : Program) (x y : zcc) (k : List (TypeId × Nat)) : zfc P k (ze6 x) (ze6 y) = zfc P k [(.int .i64 x.table), (.int .i64 x.seq)] [(.int .i64 y.table), (.int .i64 y.seq)] := rfl
@[go_sem] theorem zDk (x : zcc) : cut (ze6 x) 0 1 = [(.int .i64 x.table)] := by
  simp [cut, zbE]
@[go_sem] theorem zCi (x : zcc) (v : Int) : put (ze6 x) 0 ([(.int .i64 v)]) = ze6 (x.setTable v) := by
  simp [put, zbE, zcc.setTable_table, zcc.setTable_seq]
@[go_sem] theorem zFc (x : zcc) : cut (ze6 x) 1 1 = [(.int .i64 x.seq)] := by
  simp [cut, zbE]
@[go_sem] theorem zEC (x : zcc) (v : Int) : put (ze6 x) 1 ([(.int .i64 v)]) = ze6 (x.setSeq v) := by
  simp [put, zbE, zcc.setSeq_table, zcc.setSeq_seq]
mutual
inductive zam where
 | mk (coeff : Int) (factors : (Sl zaj))
inductive zaj where
 | mk (atom : zap) (exp : Int)
inductive zap where
 | mk (kind : Int) (row : zcc) (args : (Sl (Sl zam))) (func : Int) (items : (Sl zaf)) (op : Int) (bound : Val)
inductive zaf where
 | mk (value : Val) (ann : (Sl zam))
end
def zam.coeff : zam → Int
 | .mk x _ => x
def zam.factors : zam → (Sl zaj)
 | .mk _ x => x
def zaj.atom : zaj → zap
 | .mk x _ => x
def zaj.exp : zaj → Int
 | .mk _ x => x
def zap.kind : zap → Int
 | .mk x _ _ _ _ _ _ => x
def zap.row : zap → zcc
 | .mk _ x _ _ _ _ _ => x
def zap.args : zap → (Sl (Sl zam))
 | .mk _ _ x _ _ _ _ => x
def zap.func : zap → Int
 | .mk _ _ _ x _ _ _ => x
def zap.items : zap → (Sl zaf)
 | .mk _ _ _ _ x _ _ => x
def zap.op : zap → Int
 | .mk _ _ _ _ _ x _ => x
def zap.bound : zap → Val
 | .mk _ _ _ _ _ _ x => x
def zaf.value : zaf → Val
 | .mk x _ => x
def zaf.ann : zaf → (Sl zam)
 | .mk _ x => x
def zam.setCoeff : zam → Int → zam
 | .mk _ x1, v => .mk v x1
def zam.setFactors : zam → (Sl zaj) → zam
 | .mk x0 _, v => .mk x0 v
def zaj.setAtom : zaj → zap → zaj
 | .mk _ x1, v => .mk v x1
def zaj.setExp : zaj → Int → zaj
 | .mk x0 _, v => .mk x0 v
def zap.setKind : zap → Int → zap
 | .mk _ x1 x2 x3 x4 x5 x6, v => .mk v x1 x2 x3 x4 x5 x6
def zap.setRow : zap → zcc → zap
 | .mk x0 _ x2 x3 x4 x5 x6, v => .mk x0 v x2 x3 x4 x5 x6
def zap.setArgs : zap → (Sl (Sl zam)) → zap
 | .mk x0 x1 _ x3 x4 x5 x6, v => .mk x0 x1 v x3 x4 x5 x6
def zap.setFunc : zap → Int → zap
 | .mk x0 x1 x2 _ x4 x5 x6, v => .mk x0 x1 x2 v x4 x5 x6
def zap.setItems : zap → (Sl zaf) → zap
 | .mk x0 x1 x2 x3 _ x5 x6, v => .mk x0 x1 x2 x3 v x5 x6
def zap.setOp : zap → Int → zap
 | .mk x0 x1 x2 x3 x4 _ x6, v => .mk x0 x1 x2 x3 x4 v x6
def zap.setBound : zap → Val → zap
 | .mk x0 x1 x2 x3 x4 x5 _, v => .mk x0 x1 x2 x3 x4 x5 v
def zaf.setValue : zaf → Val → zaf
 | .mk _ x1, v => .mk v x1
def zaf.setAnn : zaf → (Sl zam) → zaf
 | .mk x0 _, v => .mk x0 v
def zam.zero : zam := .mk 0 Sl.nil
def zap.zero : zap := .mk 0 zcc.zero Sl.nil 0 Sl.nil 0 Val.zero
def zaj.zero : zaj := .mk zap.zero 0
def zaf.zero : zaf := .mk Val.zero Sl.nil
mutual
def zau : zam → List D
 | .mk x0 x1 => ([(.int .i64 x0)]) ++ ([zru x1])
def zaP : zaj → List D
 | .mk x0 x1 => (zcB x0) ++ ([(.int .i64 x1)])
def zcB : zap → List D
 | .mk x0 x1 x2 x3 x4 x5 x6 => ([(.int .i64 x0)]) ++ (ze6 x1) ++ ([zrt x2]) ++ ([(.int .i64 x3)]) ++ ([zn9 x4]) ++ ([(.int .i64 x5)]) ++ (zfR x6)
def zao : zaf → List D
 | .mk x0 x1 => (zfR x0) ++ ([zqB x1])
def zru : Sl zaj → D
 | .mk f l => .sl f (zsI l)
def zsI : List zaj → List (List D)
 | [] => []
 | x :: r => (zaP x) :: zsI r
def zrt : Sl (Sl zam) → D
 | .mk f l => .sl f (zsH l)
def zsH : List (Sl zam) → List (List D)
 | [] => []
 | x :: r => ([zqB x]) :: zsH r
def zqB : Sl zam → D
 | .mk f l => .sl f (zAa l)
def zAa : List zam → List (List D)
 | [] => []
 | x :: r => (zau x) :: zAa r
def zn9 : Sl zaf → D
 | .mk f l => .sl f (zoK l)
def zoK : List zaf → List (List D)
 | [] => []
 | x :: r => (zao x) :: zoK r
end
theorem zy7 (l : List zaj) : zsI l = l.map zaP := by
 induction l with
 | nil => rfl
 | cons x r ih => rw [zsI, ih]; rfl
theorem zjY (s : Sl zaj) : zru s = dSl zaP s := by cases s; simp only [zru, dSl, zy7]
theorem zxH (l : List zam) : zAa l = l.map zau := by
 induction l with
 | nil => rfl
 | cons x r ih => rw [zAa, ih]; rfl
theorem zmQ (s : Sl zam) : zqB s = dSl zau s := by cases s; simp only [zqB, dSl, zxH]
theorem zwf (l : List zaf) : zoK l = l.map zao := by
 induction l with
 | nil => rfl
 | cons x r ih => rw [zoK, ih]; rfl
theorem zh7 (s : Sl zaf) : zn9 s = dSl zao s := by cases s; simp only [zn9, dSl, zwf]
theorem zy6 (l : List (Sl zam)) : zsH l = l.map (cSl zau) := by
 induction l with
 | nil => rfl
 | cons x r ih => rw [zsH, ih]; cases x; simp only [List.map_cons, cSl, dSl, zqB, zxH]
theorem zjX (s : Sl (Sl zam)) : zrt s = dSl (cSl zau) s := by cases s; simp only [zrt, dSl, zy6]
theorem ziY (x : zam) : zau x = ([(.int .i64 x.coeff)]) ++ ([(dSl zaP x.factors)]) := by
 cases x; simp only [zau, zjY, zjX, zmQ, zh7, zam.coeff, zam.factors]
theorem zdX (x : zaj) : zaP x = (zcB x.atom) ++ ([(.int .i64 x.exp)]) := by
 cases x; simp only [zaP, zjY, zjX, zmQ, zh7, zaj.atom, zaj.exp]
theorem zcn (x : zap) : zcB x = ([(.int .i64 x.kind)]) ++ (ze6 x.row) ++ ([(dSl (cSl zau) x.args)]) ++ ([(.int .i64 x.func)]) ++ ([(dSl zao x.items)]) ++ ([(.int .i64 x.op)]) ++ (zfR x.bound) := by
 cases x; simp only [zcB, zjY, zjX, zmQ, zh7, zap.kind, zap.row, zap.args, zap.func, zap.items, zap.op, zap.bound]
theorem zcJ (x : zaf) : zao x = (zfR x.value) ++ ([(dSl zau x.ann)]) := by
 cases x; simp only [zao, zjY, zjX, zmQ, zh7, zaf.value, zaf.ann]
@[go_sem] theorem zam.setCoeff_coeff (x : zam) (v : Int) : (x.setCoeff v).coeff = v := by cases x; rfl
@[go_sem] theorem zam.setCoeff_factors (x : zam) (v : Int) : (x.setCoeff v).factors = x.factors := by cases x; rfl
@[go_sem] theorem zam.setFactors_coeff (x : zam) (v : (Sl zaj)) : (x.setFactors v).coeff = x.coeff := by cases x; rfl
@[go_sem] theorem zam.setFactors_factors (x : zam) (v : (Sl zaj)) : (x.setFactors v).factors = v := by cases x; rfl
@[go_sem] theorem zIV (x : zam) : (zau x).length = 2 := by simp [ziY]
@[go_sem] theorem zFq (x : zam) : zby (zau x) = true := by simp [ziY, zb5, zby, cell, dSl]
@[go_sem] theorem zuk (x : zam) : zaJ (zau x) = true := by simp [ziY, zbS, zaJ, still, dSl]
@[go_sem] theorem zHA (x : zam) : zkO (zau x) = [] := by simp [ziY, zdi, zkO, ids, dSl]
@[go_sem] theorem zHt (ρ : Nm → Option (Nm × Nat)) (x : zam) : zkh ρ (zau x) = some (zau x) := by simp [ziY, zdh, zkh, ren, dSl]
@[go_sem] theorem zGr (n : Nat) (x : zam) : zeW (zhv n) (zau x) = pure (zau x, []) := zhH (zuk x)
@[go_sem] theorem zam.zero_coeff : zam.zero.coeff = 0 := rfl
@[go_sem] theorem zam.zero_factors : zam.zero.factors = Sl.nil := rfl
@[go_sem] theorem zDZ (x : zam) : cut (zau x) 0 1 = [(.int .i64 x.coeff)] := by
  simp [cut, ziY]
@[go_sem] theorem zDR (x : zam) (v : Int) : put (zau x) 0 ([(.int .i64 v)]) = zau (x.setCoeff v) := by
  simp [put, ziY, zam.setCoeff_coeff, zam.setCoeff_factors]
@[go_sem] theorem zBC (x : zam) : cut (zau x) 1 1 = [(dSl zaP x.factors)] := by
  simp [cut, ziY]
@[go_sem] theorem zap.setKind_kind (x : zap) (v : Int) : (x.setKind v).kind = v := by cases x; rfl
@[go_sem] theorem zap.setKind_row (x : zap) (v : Int) : (x.setKind v).row = x.row := by cases x; rfl
@[go_sem] theorem zap.setKind_args (x : zap) (v : Int) : (x.setKind v).args = x.args := by cases x; rfl
@[go_sem] theorem zap.setKind_func (x : zap) (v : Int) : (x.setKind v).func = x.func := by cases x; rfl
@[go_sem] theorem zap.setKind_items (x : zap) (v : Int) : (x.setKind v).items = x.items := by cases x; rfl
@[go_sem] theorem zap.setKind_op (x : zap) (v : Int) : (x.setKind v).op = x.op := by cases x; rfl
@[go_sem] theorem zap.setKind_bound (x : zap) (v : Int) : (x.setKind v).bound = x.bound := by cases x; rfl
@[go_sem] theorem zap.setRow_kind (x : zap) (v : zcc) : (x.setRow v).kind = x.kind := by cases x; rfl
@[go_sem] theorem zap.setRow_row (x : zap) (v : zcc) : (x.setRow v).row = v := by cases x; rfl
@[go_sem] theorem zap.setRow_args (x : zap) (v : zcc) : (x.setRow v).args = x.args := by cases x; rfl
@[go_sem] theorem zap.setRow_func (x : zap) (v : zcc) : (x.setRow v).func = x.func := by cases x; rfl
@[go_sem] theorem zap.setRow_items (x : zap) (v : zcc) : (x.setRow v).items = x.items := by cases x; rfl
@[go_sem] theorem zap.setRow_op (x : zap) (v : zcc) : (x.setRow v).op = x.op := by cases x; rfl
@[go_sem] theorem zap.setRow_bound (x : zap) (v : zcc) : (x.setRow v).bound = x.bound := by cases x; rfl
@[go_sem] theorem zap.setArgs_kind (x : zap) (v : (Sl (Sl zam))) : (x.setArgs v).kind = x.kind := by cases x; rfl
@[go_sem] theorem zap.setArgs_row (x : zap) (v : (Sl (Sl zam))) : (x.setArgs v).row = x.row := by cases x; rfl
@[go_sem] theorem zap.setArgs_args (x : zap) (v : (Sl (Sl zam))) : (x.setArgs v).args = v := by cases x; rfl
@[go_sem] theorem zap.setArgs_func (x : zap) (v : (Sl (Sl zam))) : (x.setArgs v).func = x.func := by cases x; rfl
@[go_sem] theorem zap.setArgs_items (x : zap) (v : (Sl (Sl zam))) : (x.setArgs v).items = x.items := by cases x; rfl
@[go_sem] theorem zap.setArgs_op (x : zap) (v : (Sl (Sl zam))) : (x.setArgs v).op = x.op := by cases x; rfl
@[go_sem] theorem zap.setArgs_bound (x : zap) (v : (Sl (Sl zam))) : (x.setArgs v).bound = x.bound := by cases x; rfl
@[go_sem] theorem zap.setFunc_kind (x : zap) (v : Int) : (x.setFunc v).kind = x.kind := by cases x; rfl
@[go_sem] theorem zap.setFunc_row (x : zap) (v : Int) : (x.setFunc v).row = x.row := by cases x; rfl
@[go_sem] theorem zap.setFunc_args (x : zap) (v : Int) : (x.setFunc v).args = x.args := by cases x; rfl
@[go_sem] theorem zap.setFunc_func (x : zap) (v : Int) : (x.setFunc v).func = v := by cases x; rfl
@[go_sem] theorem zap.setFunc_items (x : zap) (v : Int) : (x.setFunc v).items = x.items := by cases x; rfl
@[go_sem] theorem zap.setFunc_op (x : zap) (v : Int) : (x.setFunc v).op = x.op := by cases x; rfl
@[go_sem] theorem zap.setFunc_bound (x : zap) (v : Int) : (x.setFunc v).bound = x.bound := by cases x; rfl
@[go_sem] theorem zap.setItems_kind (x : zap) (v : (Sl zaf)) : (x.setItems v).kind = x.kind := by cases x; rfl
@[go_sem] theorem zap.setItems_row (x : zap) (v : (Sl zaf)) : (x.setItems v).row = x.row := by cases x; rfl
@[go_sem] theorem zap.setItems_args (x : zap) (v : (Sl zaf)) : (x.setItems v).args = x.args := by cases x; rfl
@[go_sem] theorem zap.setItems_func (x : zap) (v : (Sl zaf)) : (x.setItems v).func = x.func := by cases x; rfl
@[go_sem] theorem zap.setItems_items (x : zap) (v : (Sl zaf)) : (x.setItems v).items = v := by cases x; rfl
@[go_sem] theorem zap.setItems_op (x : zap) (v : (Sl zaf)) : (x.setItems v).op = x.op := by cases x; rfl
@[go_sem] theorem zap.setItems_bound (x : zap) (v : (Sl zaf)) : (x.setItems v).bound = x.bound := by cases x; rfl
@[go_sem] theorem zap.setOp_kind (x : zap) (v : Int) : (x.setOp v).kind = x.kind := by cases x; rfl
@[go_sem] theorem zap.setOp_row (x : zap) (v : Int) : (x.setOp v).row = x.row := by cases x; rfl
@[go_sem] theorem zap.setOp_args (x : zap) (v : Int) : (x.setOp v).args = x.args := by cases x; rfl
@[go_sem] theorem zap.setOp_func (x : zap) (v : Int) : (x.setOp v).func = x.func := by cases x; rfl
@[go_sem] theorem zap.setOp_items (x : zap) (v : Int) : (x.setOp v).items = x.items := by cases x; rfl
@[go_sem] theorem zap.setOp_op (x : zap) (v : Int) : (x.setOp v).op = v := by cases x; rfl
@[go_sem] theorem zap.setOp_bound (x : zap) (v : Int) : (x.setOp v).bound = x.bound := by cases x; rfl
@[go_sem] theorem zap.setBound_kind (x : zap) (v : Val) : (x.setBound v).kind = x.kind := by cases x; rfl
@[go_sem] theorem zap.setBound_row (x : zap) (v : Val) : (x.setBound v).row = x.row := by cases x; rfl
@[go_sem] theorem zap.setBound_args (x : zap) (v : Val) : (x.setBound v).args = x.args := by cases x; rfl
@[go_sem] theorem zap.setBound_func (x : zap) (v : Val) : (x.setBound v).func = x.func := by cases x; rfl
@[go_sem] theorem zap.setBound_items (x : zap) (v : Val) : (x.setBound v).items = x.items := by cases x; rfl
@[go_sem] theorem zap.setBound_op (x : zap) (v : Val) : (x.setBound v).op = x.op := by cases x; rfl
@[go_sem] theorem zap.setBound_bound (x : zap) (v : Val) : (x.setBound v).bound = v := by cases x; rfl
@[go_sem] theorem zCz (x : zap) : (zcB x).length = 10 := by simp [zcn, zAU, zzG]
@[go_sem] theorem zwl (x : zap) : zby (zcB x) = true := by simp [zcn, zb5, zby, cell, dSl, zum, zr9]
@[go_sem] theorem zpn (x : zap) : zaJ (zcB x) = true := by simp [zcn, zbS, zaJ, still, dSl, zoc, zmT]
@[go_sem] theorem zAX (x : zap) : zkO (zcB x) = [] := by simp [zcn, zdi, zkO, ids, dSl, zyP, zxd]
@[go_sem] theorem zAw (ρ : Nm → Option (Nm × Nat)) (x : zap) : zkh ρ (zcB x) = some (zcB x) := by simp [zcn, zdh, zkh, ren, dSl, zys, zwQ]
@[go_sem] theorem zGt (n : Nat) (x : zap) : zeW (zhv n) (zcB x) = pure (zcB x, []) := zhH (zpn x)
@[go_sem] theorem zap.zero_kind : zap.zero.kind = 0 := rfl
@[go_sem] theorem zap.zero_row : zap.zero.row = zcc.zero := rfl
@[go_sem] theorem zap.zero_args : zap.zero.args = Sl.nil := rfl
@[go_sem] theorem zap.zero_func : zap.zero.func = 0 := rfl
@[go_sem] theorem zap.zero_items : zap.zero.items = Sl.nil := rfl
@[go_sem] theorem zap.zero_op : zap.zero.op = 0 := rfl
@[go_sem] theorem zap.zero_bound : zap.zero.bound = Val.zero := rfl
@[go_sem] theorem zFd (x : zap) : cut (zcB x) 0 1 = [(.int .i64 x.kind)] := by
  simp [cut, zcn, zbE, zbY]
@[go_sem] theorem zEE (x : zap) (v : Int) : put (zcB x) 0 ([(.int .i64 v)]) = zcB (x.setKind v) := by
  simp [put, zcn, zbE, zbY, zap.setKind_kind, zap.setKind_row, zap.setKind_args, zap.setKind_func, zap.setKind_items, zap.setKind_op, zap.setKind_bound]
@[go_sem] theorem zF8 (x : zap) : cut (zcB x) 1 2 = ze6 x.row := by
  simp [cut, zcn, zbE, zbY]
@[go_sem] theorem zFH (x : zap) (v : zcc) : put (zcB x) 1 (ze6 v) = zcB (x.setRow v) := by
  simp [put, zcn, zbE, zbY, zap.setRow_kind, zap.setRow_row, zap.setRow_args, zap.setRow_func, zap.setRow_items, zap.setRow_op, zap.setRow_bound]
@[go_sem] theorem zz8 (x : zap) : cut (zcB x) 1 1 = [(.int .i64 x.row.table)] := by
  simp [cut, zcn, zbE, zbY]
@[go_sem] theorem zBD (x : zap) : cut (zcB x) 2 1 = [(.int .i64 x.row.seq)] := by
  simp [cut, zcn, zbE, zbY]
@[go_sem] theorem zFf (x : zap) : cut (zcB x) 3 1 = [(dSl (cSl zau) x.args)] := by
  simp [cut, zcn, zbE, zbY]
@[go_sem] theorem zFe (x : zap) : cut (zcB x) 4 1 = [(.int .i64 x.func)] := by
  simp [cut, zcn, zbE, zbY]
@[go_sem] theorem zEF (x : zap) (v : Int) : put (zcB x) 4 ([(.int .i64 v)]) = zcB (x.setFunc v) := by
  simp [put, zcn, zbE, zbY, zap.setFunc_kind, zap.setFunc_row, zap.setFunc_args, zap.setFunc_func, zap.setFunc_items, zap.setFunc_op, zap.setFunc_bound]
@[go_sem] theorem zD1 (x : zap) : cut (zcB x) 5 1 = [(dSl zao x.items)] := by
  simp [cut, zcn, zbE, zbY]
@[go_sem] theorem zHc (x : zap) : cut (zcB x) 6 1 = [(.int .i64 x.op)] := by
  simp [cut, zcn, zbE, zbY]
@[go_sem] theorem zD2 (x : zap) : cut (zcB x) 7 3 = zfR x.bound := by
  simp [cut, zcn, zbE, zbY]
@[go_sem] theorem zED (x : zap) (b : Nm) (g o l : Nat) : put (zcB x) 3 [.own b g o l] = [(.int .i64 x.kind), (.int .i64 x.row.table), (.int .i64 x.row.seq), .own b g o l, (.int .i64 x.func), (dSl zao x.items), (.int .i64 x.op), (.int .i64 x.bound.kind), (.int .i64 x.bound.int), (.str x.bound.text)] := by
  simp [put, zcn, zbE, zbY]
@[go_sem] theorem zaj.setAtom_atom (x : zaj) (v : zap) : (x.setAtom v).atom = v := by cases x; rfl
@[go_sem] theorem zaj.setAtom_exp (x : zaj) (v : zap) : (x.setAtom v).exp = x.exp := by cases x; rfl
@[go_sem] theorem zaj.setExp_atom (x : zaj) (v : Int) : (x.setExp v).atom = x.atom := by cases x; rfl
@[go_sem] theorem zaj.setExp_exp (x : zaj) (v : Int) : (x.setExp v).exp = v := by cases x; rfl
@[go_sem] theorem zGI (x : zaj) : (zaP x).length = 11 := by simp [zdX, zCz]
@[go_sem] theorem zDH (x : zaj) : zby (zaP x) = true := by simp [zdX, zb5, zby, cell, dSl, zwl]
@[go_sem] theorem zsn (x : zaj) : zaJ (zaP x) = true := by simp [zdX, zbS, zaJ, still, dSl, zpn]
@[go_sem] theorem zFS (x : zaj) : zkO (zaP x) = [] := by simp [zdX, zdi, zkO, ids, dSl, zAX]
@[go_sem] theorem zFA (ρ : Nm → Option (Nm × Nat)) (x : zaj) : zkh ρ (zaP x) = some (zaP x) := by simp [zdX, zdh, zkh, ren, dSl, zAw]
@[go_sem] theorem zEz (n : Nat) (x : zaj) : zeW (zhv n) (zaP x) = pure (zaP x, []) := zhH (zsn x)
@[go_sem] theorem zaj.zero_atom : zaj.zero.atom = zap.zero := rfl
@[go_sem] theorem zaj.zero_exp : zaj.zero.exp = 0 := rfl
@[go_sem] theorem zDl (x : zaj) : cut (zaP x) 0 10 = zcB x.atom := by
  simp [cut, zdX, zcn, zbE, zbY]
@[go_sem] theorem zCj (x : zaj) (v : zap) : put (zaP x) 0 (zcB v) = zaP (x.setAtom v) := by
  simp [put, zdX, zcn, zbE, zbY, zaj.setAtom_atom, zaj.setAtom_exp]
@[go_sem] theorem zxX (x : zaj) : cut (zaP x) 0 1 = [(.int .i64 x.atom.kind)] := by
  simp [cut, zdX, zcn, zbE, zbY]
@[go_sem] theorem zxY (x : zaj) : cut (zaP x) 3 1 = [(dSl (cSl zau) x.atom.args)] := by
  simp [cut, zdX, zcn, zbE, zbY]
@[go_sem] theorem zxC (x : zaj) : cut (zaP x) 5 1 = [(dSl zao x.atom.items)] := by
  simp [cut, zdX, zcn, zbE, zbY]
@[go_sem] theorem zD0 (x : zaj) : cut (zaP x) 10 1 = [(.int .i64 x.exp)] := by
  simp [cut, zdX, zcn, zbE, zbY]
@[go_sem] theorem zDS (x : zaj) (v : Int) : put (zaP x) 10 ([(.int .i64 v)]) = zaP (x.setExp v) := by
  simp [put, zdX, zcn, zbE, zbY, zaj.setExp_atom, zaj.setExp_exp]
@[go_sem] theorem zaf.setValue_value (x : zaf) (v : Val) : (x.setValue v).value = v := by cases x; rfl
@[go_sem] theorem zaf.setValue_ann (x : zaf) (v : Val) : (x.setValue v).ann = x.ann := by cases x; rfl
@[go_sem] theorem zaf.setAnn_value (x : zaf) (v : (Sl zam)) : (x.setAnn v).value = x.value := by cases x; rfl
@[go_sem] theorem zaf.setAnn_ann (x : zaf) (v : (Sl zam)) : (x.setAnn v).ann = v := by cases x; rfl
@[go_sem] theorem zEO (x : zaf) : (zao x).length = 4 := by simp [zcJ, zzG]
@[go_sem] theorem zBt (x : zaf) : zby (zao x) = true := by simp [zcJ, zb5, zby, cell, dSl, zr9]
@[go_sem] theorem zqG (x : zaf) : zaJ (zao x) = true := by simp [zcJ, zbS, zaJ, still, dSl, zmT]
@[go_sem] theorem zDV (x : zaf) : zkO (zao x) = [] := by simp [zcJ, zdi, zkO, ids, dSl, zxd]
@[go_sem] theorem zDP (ρ : Nm → Option (Nm × Nat)) (x : zaf) : zkh ρ (zao x) = some (zao x) := by simp [zcJ, zdh, zkh, ren, dSl, zwQ]
@[go_sem] theorem zCc (n : Nat) (x : zaf) : zeW (zhv n) (zao x) = pure (zao x, []) := zhH (zqG x)
@[go_sem] theorem zaf.zero_value : zaf.zero.value = Val.zero := rfl
@[go_sem] theorem zaf.zero_ann : zaf.zero.ann = Sl.nil := rfl
@[go_sem] theorem zz7 (x : zaf) : cut (zao x) 0 3 = zfR x.value := by
  simp [cut, zcJ, zbY]
@[go_sem] theorem zzB (x : zaf) (v : Val) : put (zao x) 0 (zfR v) = zao (x.setValue v) := by
  simp [put, zcJ, zbY, zaf.setValue_value, zaf.setValue_ann]
@[go_sem] theorem zwc (x : zaf) : cut (zao x) 0 1 = [(.int .i64 x.value.kind)] := by
  simp [cut, zcJ, zbY]
@[go_sem] theorem zwu (x : zaf) : cut (zao x) 1 1 = [(.int .i64 x.value.int)] := by
  simp [cut, zcJ, zbY]
@[go_sem] theorem zBB (x : zaf) : cut (zao x) 3 1 = [(dSl zau x.ann)] := by
  simp [cut, zcJ, zbY]
@[go_sem] theorem zBx (x : zaf) (v : (Sl zam)) : put (zao x) 3 ([(dSl zau v)]) = zao (x.setAnn v) := by
  simp [put, zcJ, zbY, zaf.setAnn_value, zaf.setAnn_ann]
structure zhF where
 values : (Sl Val)
 ann : (Sl zam)
def zhF.setValues : zhF → (Sl Val) → zhF
 | .mk _ x1, v => .mk v x1
def zhF.setAnn : zhF → (Sl zam) → zhF
 | .mk x0 _, v => .mk x0 v
def zhF.zero : zhF := .mk Sl.nil Sl.nil
def zjZ (x : zhF) : List D := ([(dSl zfR x.values)]) ++ ([(dSl zau x.ann)])
theorem zh9 (x : zhF) : zjZ x = ([(dSl zfR x.values)]) ++ ([(dSl zau x.ann)]) := rfl
@[go_sem] theorem zhF.setValues_values (x : zhF) (v : (Sl Val)) : (x.setValues v).values = v := by cases x; rfl
@[go_sem] theorem zhF.setValues_ann (x : zhF) (v : (Sl Val)) : (x.setValues v).ann = x.ann := by cases x; rfl
@[go_sem] theorem zhF.setAnn_values (x : zhF) (v : (Sl zam)) : (x.setAnn v).values = x.values := by cases x; rfl
@[go_sem] theorem zhF.setAnn_ann (x : zhF) (v : (Sl zam)) : (x.setAnn v).ann = v := by cases x; rfl
@[go_sem] theorem zIW (x : zhF) : (zjZ x).length = 2 := by simp [zh9]
@[go_sem] theorem zFr (x : zhF) : zby (zjZ x) = true := by simp [zh9, zb5, zby, cell, dSl]
@[go_sem] theorem zul (x : zhF) : zaJ (zjZ x) = true := by simp [zh9, zbS, zaJ, still, dSl]
@[go_sem] theorem zHB (x : zhF) : zkO (zjZ x) = [] := by simp [zh9, zdi, zkO, ids, dSl]
@[go_sem] theorem zHu (ρ : Nm → Option (Nm × Nat)) (x : zhF) : zkh ρ (zjZ x) = some (zjZ x) := by simp [zh9, zdh, zkh, ren, dSl]
@[go_sem] theorem zGs (n : Nat) (x : zhF) : zeW (zhv n) (zjZ x) = pure (zjZ x, []) := zhH (zul x)
@[go_sem] theorem zhF.zero_values : zhF.zero.values = Sl.nil := rfl
@[go_sem] theorem zhF.zero_ann : zhF.zero.ann = Sl.nil := rfl
@[go_sem] theorem zDm (x : zhF) : cut (zjZ x) 0 1 = [(dSl zfR x.values)] := by
  simp [cut, zh9]
@[go_sem] theorem zCk (x : zhF) (v : (Sl Val)) : put (zjZ x) 0 ([(dSl zfR v)]) = zjZ (x.setValues v) := by
  simp [put, zh9, zhF.setValues_values, zhF.setValues_ann]
@[go_sem] theorem zF7 (x : zhF) : cut (zjZ x) 1 1 = [(dSl zau x.ann)] := by
  simp [cut, zh9]
@[go_sem] theorem zFG (x : zhF) (v : (Sl zam)) : put (zjZ x) 1 ([(dSl zau v)]) = zjZ (x.setAnn v) := by
  simp [put, zh9, zhF.setAnn_values, zhF.setAnn_ann]
structure zjl where
 name : Str
 type : Int
def zjl.zero : zjl := .mk [] 0
def ziQ (x : zjl) : List D := ([(.str x.name)]) ++ ([(.int .i64 x.type)])
theorem ziP (x : zjl) : ziQ x = ([(.str x.name)]) ++ ([(.int .i64 x.type)]) := rfl
@[go_sem] theorem zGJ (x : zjl) : (ziQ x).length = 2 := by simp [ziP]
@[go_sem] theorem zDI (x : zjl) : zby (ziQ x) = true := by simp [ziP, zb5, zby, cell, dSl]
@[go_sem] theorem zBE (x : zjl) : zaJ (ziQ x) = true := by simp [ziP, zbS, zaJ, still, dSl]
@[go_sem] theorem zFT (x : zjl) : zkO (ziQ x) = [] := by simp [ziP, zdi, zkO, ids, dSl]
@[go_sem] theorem zFB (ρ : Nm → Option (Nm × Nat)) (x : zjl) : zkh ρ (ziQ x) = some (ziQ x) := by simp [ziP, zdh, zkh, ren, dSl]
@[go_sem] theorem zjl.zero_name : zjl.zero.name = [] := rfl
@[go_sem] theorem zjl.zero_type : zjl.zero.type = 0 := rfl
@[go_sem] theorem zFX (P : Program) (x y : zjl) (k : List (TypeId × Nat)) : zfc P k (ziQ x) (ziQ y) = zfc P k [(.str x.name), (.int .i64 x.type)] [(.str y.name), (.int .i64 y.type)] := rfl
structure zf7 where
 columns : (Sl zjl)
 rows : (Sl zhF)
def zf7.zero : zf7 := .mk Sl.nil Sl.nil
def zh8 (x : zf7) : List D := ([(dSl ziQ x.columns)]) ++ ([(dSl zjZ x.rows)])
theorem zgN (x : zf7) : zh8 x = ([(dSl ziQ x.columns)]) ++ ([(dSl zjZ x.rows)]) := rfl
@[go_sem] theorem zEP (x : zf7) : (zh8 x).length = 2 := by simp [zgN]
@[go_sem] theorem zBu (x : zf7) : zby (zh8 x) = true := by simp [zgN, zb5, zby, cell, dSl]
@[go_sem] theorem zAd (x : zf7) : zaJ (zh8 x) = true := by simp [zgN, zbS, zaJ, still, dSl]
@[go_sem] theorem zDW (x : zf7) : zkO (zh8 x) = [] := by simp [zgN, zdi, zkO, ids, dSl]
@[go_sem] theorem zDQ (ρ : Nm → Option (Nm × Nat)) (x : zf7) : zkh ρ (zh8 x) = some (zh8 x) := by simp [zgN, zdh, zkh, ren, dSl]
@[go_sem] theorem zf7.zero_columns : zf7.zero.columns = Sl.nil := rfl
@[go_sem] theorem zf7.zero_rows : zf7.zero.rows = Sl.nil := rfl
structure zda where
 at_ : Int
 length : Int
 rows : Int
def zda.zero : zda := .mk 0 0 0
def zfH (x : zda) : List D := ([(.int .i64 x.at_)]) ++ ([(.int .i64 x.length)]) ++ ([(.int .i64 x.rows)])
theorem zf5 (x : zda) : zfH x = ([(.int .i64 x.at_)]) ++ ([(.int .i64 x.length)]) ++ ([(.int .i64 x.rows)]) := rfl
@[go_sem] theorem zDT (x : zda) : (zfH x).length = 3 := by simp [zf5]
@[go_sem] theorem zAe (x : zda) : zby (zfH x) = true := by simp [zf5, zb5, zby, cell, dSl]
@[go_sem] theorem zzd (x : zda) : zaJ (zfH x) = true := by simp [zf5, zbS, zaJ, still, dSl]
@[go_sem] theorem zCP (x : zda) : zkO (zfH x) = [] := by simp [zf5, zdi, zkO, ids, dSl]
@[go_sem] theorem zCa (ρ : Nm → Option (Nm × Nat)) (x : zda) : zkh ρ (zfH x) = some (zfH x) := by simp [zf5, zdh, zkh, ren, dSl]
@[go_sem] theorem zda.zero_at_ : zda.zero.at_ = 0 := rfl
@[go_sem] theorem zda.zero_length : zda.zero.length = 0 := rfl
@[go_sem] theorem zda.zero_rows : zda.zero.rows = 0 := rfl
@[go_sem] theorem zDf (P : Program) (x y : zda) (k : List (TypeId × Nat)) : zfc P k (zfH x) (zfH y) = zfc P k [(.int .i64 x.at_), (.int .i64 x.length), (.int .i64 x.rows)] [(.int .i64 y.at_), (.int .i64 y.length), (.int .i64 y.rows)] := rfl
structure zab where
 rest : Str
def zab.setRest : zab → Str → zab
 | .mk _, v => .mk v
def zab.zero : zab := .mk []
def zac (x : zab) : List D := ([(.str x.rest)])
theorem zbJ (x : zab) : zac x = ([(.str x.rest)]) := rfl
@[go_sem] theorem zab.setRest_rest (x : zab) (v : Str) : (x.setRest v).rest = v := by cases x; rfl
@[go_sem] theorem zwt (x : zab) : (zac x).length = 1 := by simp [zbJ]
@[go_sem] theorem zt0 (x : zab) : zby (zac x) = true := by simp [zbJ, zb5, zby, cell, dSl]
@[go_sem] theorem ztL (x : zab) : zaJ (zac x) = true := by simp [zbJ, zbS, zaJ, still, dSl]
@[go_sem] theorem zvR (x : zab) : zkO (zac x) = [] := by simp [zbJ, zdi, zkO, ids, dSl]
@[go_sem] theorem zvv (ρ : Nm → Option (Nm × Nat)) (x : zab) : zkh ρ (zac x) = some (zac x) := by simp [zbJ, zdh, zkh, ren, dSl]
@[go_sem] theorem zab.zero_rest : zab.zero.rest = [] := rfl
@[go_sem] theorem zv7 (P : Program) (x y : zab) (k : List (TypeId × Nat)) : zfc P k (zac x) (zac y) = zfc P k [(.str x.rest)] [(.str y.rest)] := rfl
@[go_sem] theorem zvG (x : zab) : only (zac x) = some (.str x.rest) := rfl
structure zcX where
 at_ : Int
 data : (Sl Int)
def zcX.zero : zcX := .mk 0 Sl.nil
def zeF (x : zcX) : List D := ([(.int .i64 x.at_)]) ++ ([(dSl (cI .u8) x.data)])
theorem zfd (x : zcX) : zeF x = ([(.int .i64 x.at_)]) ++ ([(dSl (cI .u8) x.data)]) := rfl
@[go_sem] theorem zCy (x : zcX) : (zeF x).length = 2 := by simp [zfd]
@[go_sem] theorem zzf (x : zcX) : zby (zeF x) = true := by simp [zfd, zb5, zby, cell, dSl]
@[go_sem] theorem zxZ (x : zcX) : zaJ (zeF x) = true := by simp [zfd, zbS, zaJ, still, dSl]
@[go_sem] theorem zBz (x : zcX) : zkO (zeF x) = [] := by simp [zfd, zdi, zkO, ids, dSl]
@[go_sem] theorem zBw (ρ : Nm → Option (Nm × Nat)) (x : zcX) : zkh ρ (zeF x) = some (zeF x) := by simp [zfd, zdh, zkh, ren, dSl]
@[go_sem] theorem zcX.zero_at_ : zcX.zero.at_ = 0 := rfl
@[go_sem] theorem zcX.zero_data : zcX.zero.data = Sl.nil := rfl
structure zcV where
 durable : (Sl Int)
 pending : (Sl zcX)
 counter : Int
 failed : Bool
def zcV.zero : zcV := .mk Sl.nil Sl.nil 0 false
def zg8 (x : zcV) : List D := ([(dSl (cI .u8) x.durable)]) ++ ([(dSl zeF x.pending)]) ++ ([(.int .i64 x.counter)]) ++ ([(.bool x.failed)])
theorem zf6 (x : zcV) : zg8 x = ([(dSl (cI .u8) x.durable)]) ++ ([(dSl zeF x.pending)]) ++ ([(.int .i64 x.counter)]) ++ ([(.bool x.failed)]) := rfl
@[go_sem] theorem zDU (x : zcV) : (zg8 x).length = 4 := by simp [zf6]
@[go_sem] theorem zAf (x : zcV) : zby (zg8 x) = true := by simp [zf6, zb5, zby, cell, dSl]
@[go_sem] theorem zze (x : zcV) : zaJ (zg8 x) = true := by simp [zf6, zbS, zaJ, still, dSl]
@[go_sem] theorem zCQ (x : zcV) : zkO (zg8 x) = [] := by simp [zf6, zdi, zkO, ids, dSl]
@[go_sem] theorem zCb (ρ : Nm → Option (Nm × Nat)) (x : zcV) : zkh ρ (zg8 x) = some (zg8 x) := by simp [zf6, zdh, zkh, ren, dSl]
@[go_sem] theorem zcV.zero_durable : zcV.zero.durable = Sl.nil := rfl
@[go_sem] theorem zcV.zero_pending : zcV.zero.pending = Sl.nil := rfl
@[go_sem] theorem zcV.zero_counter : zcV.zero.counter = 0 := rfl
@[go_sem] theorem zcV.zero_failed : zcV.zero.failed = false := rfl
theorem ze7 : type_of% (And.intro zbY (And.intro zbE (And.intro ziY (And.intro zdX (And.intro zcn (And.intro zcJ (And.intro zh9 (And.intro ziP (And.intro zgN (And.intro zf5 (And.intro zbJ (And.intro zfd (zf6))))))))))))) := And.intro zbY (And.intro zbE (And.intro ziY (And.intro zdX (And.intro zcn (And.intro zcJ (And.intro zh9 (And.intro ziP (And.intro zgN (And.intro zf5 (And.intro zbJ (And.intro zfd (zf6))))))))))))
end Go.Ev
namespace Go.Ev
def ziw (a b : Int) : Int := if a < b then -1 else if b < a then 1 else 0
def orI (a b : Int) : Int := if a = 0 then b else a
def ztZ {α : Type} (f : α → α → Int) : List α → List α → Int
 | [], [] => 0
 | [], _ :: _ => -1
 | _ :: _, [] => 1
 | x :: xs, y :: ys => orI (f x y) (ztZ f xs ys)
def zDp : Str → Str → Int := fun a b => if zfe a b then -1 else if zfe b a then 1 else 0
def zxF (a b : zcc) : Int := orI (ziw a.table b.table) (ziw a.seq b.seq)
def zkt (a b : Val) : Int := orI (ziw a.kind b.kind) (orI (ziw a.int b.int) (zDp a.text b.text))
mutual
def zhL : zam → zam → Int
 | .mk c ⟨_, fs⟩, y => orI (zdW fs y.factors.l) (ziw c y.coeff)
def zdW : List zaj → List zaj → Int
 | [], [] => 0
 | [], _ :: _ => -1
 | _ :: _, [] => 1
 | x :: xs, y :: ys => orI (zeE x y) (zdW xs ys)
def zeE : zaj → zaj → Int
 | .mk a e, y => orI (zf4 a y.atom) (ziw e y.exp)
def zf4 : zap → zap → Int
 | .mk k r ⟨_, as⟩ f ⟨_, is⟩ o b, y => orI (ziw k y.kind) (orI (zxF r y.row) (orI (ziN as y.args.l) (orI (ziw f y.func) (orI (zgA is y.items.l) (orI (ziw o y.op) (zkt b y.bound))))))
def ziN : List (Sl zam) → List (Sl zam) → Int
 | [], [] => 0
 | [], _ :: _ => -1
 | _ :: _, [] => 1
 | ⟨_, x⟩ :: xs, y :: ys => orI (zg7 x y.l) (ziN xs ys)
def zg7 : List zam → List zam → Int
 | [], [] => 0
 | [], _ :: _ => -1
 | _ :: _, [] => 1
 | x :: xs, y :: ys => orI (zhL x y) (zg7 xs ys)
def zgA : List zaf → List zaf → Int
 | [], [] => 0
 | [], _ :: _ => -1
 | _ :: _, [] => 1
 | x :: xs, y :: ys => orI (zeD x y) (zgA xs ys)
def zeD : zaf → zaf → Int
 | .mk v ⟨_, l⟩, y => orI (zkt v y.value) (zg7 l y.ann.l)
end
def zgM (a b : Sl zam) : Int := zg7 a.l b.l
theorem zwe (a b : List zaj) : zdW a b = ztZ zeE a b := by
 induction a generalizing b with
 | nil => cases b <;> simp [zdW, ztZ]
 | cons x a ih => cases b <;> simp [zdW, ztZ, ih]
theorem zBk (a b : List (Sl zam)) : ziN a b = ztZ zgM a b := by
 induction a generalizing b with
 | nil => cases b <;> simp [ziN, ztZ]
 | cons x a ih => cases b <;> cases x <;> simp [ziN, ztZ, ih, zgM]
theorem zy3 (a b : List zam) : zg7 a b = ztZ zhL a b := by
 induction a generalizing b with
 | nil => cases b <;> simp [zg7, ztZ]
 | cons x a ih => cases b <;> simp [zg7, ztZ, ih]
theorem zy5 (a b : List zaf) : zgA a b = ztZ zeD a b := by
 induction a generalizing b with
 | nil => cases b <;> simp [zgA, ztZ]
 | cons x a ih => cases b <;> simp [zgA, ztZ, ih]
theorem zrq (x y : zam) : zhL x y = orI (zdW x.factors.l y.factors.l) (ziw x.coeff y.coeff) := by rcases x with ⟨c, ⟨f, l⟩⟩; simp only [zhL, zam.coeff, zam.factors]
theorem zn8 (x y : zaj) : zeE x y = orI (zf4 x.atom y.atom) (ziw x.exp y.exp) := by cases x; simp only [zeE, zaj.atom, zaj.exp]
theorem zrr (x y : zaf) : zeD x y = orI (zkt x.value y.value) (zgM x.ann y.ann) := by rcases x with ⟨v, ⟨f, l⟩⟩; simp only [zeD, zgM, zaf.value, zaf.ann]
theorem zrs (x y : zap) : zf4 x y = orI (ziw x.kind y.kind) (orI (zxF x.row y.row) (orI (ziN x.args.l y.args.l) (orI (ziw x.func y.func) (orI (zgA x.items.l y.items.l) (orI (ziw x.op y.op) (zkt x.bound y.bound)))))) := by
 rcases x with ⟨k, r, ⟨f, a⟩, fn, ⟨g, i⟩, o, b⟩; simp only [zf4, zap.kind, zap.row, zap.args, zap.func, zap.items, zap.op, zap.bound]
mutual
def zcY : zam → Nat
 | .mk _ ⟨_, fs⟩ => za1 fs + 1
def za1 : List zaj → Nat
 | [] => 0
 | x :: xs => zds x + za1 xs + 1
def zds : zaj → Nat
 | .mk a _ => zdp a + 1
def zdp : zap → Nat
 | .mk _ _ ⟨_, as⟩ _ ⟨_, is⟩ _ b => zdq as + zbB is + b.text.length + 1
def zdq : List (Sl zam) → Nat
 | [] => 0
 | ⟨_, x⟩ :: xs => zal x + zdq xs + 1
def zal : List zam → Nat
 | [] => 0
 | x :: xs => zcY x + zal xs + 1
def zbB : List zaf → Nat
 | [] => 0
 | x :: xs => zeV x + zbB xs + 1
def zeV : zaf → Nat
 | .mk v ⟨_, l⟩ => zal l + v.text.length + 1
end
theorem zhs (x : zam) : zcY x = za1 x.factors.l + 1 := by rcases x with ⟨c, ⟨f, l⟩⟩; simp only [zcY, zam.factors]
theorem zfa (x : zaj) : zds x = zdp x.atom + 1 := by cases x; simp only [zds, zaj.atom]
theorem zlT (x : zaf) : zeV x = zal x.ann.l + x.value.text.length + 1 := by rcases x with ⟨v, ⟨f, l⟩⟩; simp only [zeV, zaf.value, zaf.ann]
theorem zgf (x : zap) : zdp x = zdq x.args.l + zbB x.items.l + x.bound.text.length + 1 := by
 rcases x with ⟨k, r, ⟨f, a⟩, fn, ⟨g, i⟩, o, b⟩; simp only [zdp, zap.args, zap.items, zap.bound]
theorem zg0 {l : List zaj} {i : Nat} {x : zaj} (h : l[i]? = some x) : zds x < za1 l := by
 induction l generalizing i with
 | nil => simp at h
 | cons y l ih => cases i with
   | zero => simp at h; subst h; simp [za1]; omega
   | succ i => have := ih (by simpa using h); simp [za1]; omega
theorem zhG {l : List zam} {i : Nat} {x : zam} (h : l[i]? = some x) : zcY x < zal l := by
 induction l generalizing i with
 | nil => simp at h
 | cons y l ih => cases i with
   | zero => simp at h; subst h; simp [zal]; omega
   | succ i => have := ih (by simpa using h); simp [zal]; omega
theorem zkd {l : List zaf} {i : Nat} {x : zaf} (h : l[i]? = some x) : zeV x < zbB l := by
 induction l generalizing i with
 | nil => simp at h
 | cons y l ih => cases i with
   | zero => simp at h; subst h; simp [zbB]; omega
   | succ i => have := ih (by simpa using h); simp [zbB]; omega
theorem zka {l : List (Sl zam)} {i : Nat} {x : Sl zam} (h : l[i]? = some x) : zal x.l < zdq l := by
 induction l generalizing i with
 | nil => simp at h
 | cons y l ih => cases i with
   | zero => simp at h; subst h; cases y; simp [zdq]; omega
   | succ i => have := ih (by simpa using h); cases y; simp [zdq]; omega
theorem ze3 (l : List zaj) : l.length ≤ za1 l := by
 induction l with
 | nil => simp
 | cons y l ih => simp [za1]; omega
theorem zfU (l : List zam) : l.length ≤ zal l := by
 induction l with
 | nil => simp
 | cons y l ih => simp [zal]; omega
theorem zgE (l : List zaf) : l.length ≤ zbB l := by
 induction l with
 | nil => simp
 | cons y l ih => simp [zbB]; omega
theorem zlU (l : List (Sl zam)) : l.length ≤ zdq l := by
 induction l with
 | nil => simp
 | cons y l ih => cases y; simp [zdq]; omega
def zl2 (n : Int) : Prop := -9223372036854775808 ≤ n ∧ n ≤ 9223372036854775807
def zAj (r : zcc) : Prop := zl2 r.table ∧ zl2 r.seq
def zpX (v : Val) : Prop := zl2 v.kind ∧ zl2 v.int
mutual
def zrS : zam → Prop
 | .mk c ⟨_, fs⟩ => zl2 c ∧ zge fs
def zge : List zaj → Prop
 | [] => True
 | x :: xs => zgZ x ∧ zge xs
def zgZ : zaj → Prop
 | .mk a e => zk5 a ∧ zl2 e
def zk5 : zap → Prop
 | .mk k r ⟨_, as⟩ f ⟨_, is⟩ o b => zl2 k ∧ zAj r ∧ zsO as ∧ zl2 f ∧ zjo is ∧ zl2 o ∧ zpX b
def zsO : List (Sl zam) → Prop
 | [] => True
 | ⟨_, x⟩ :: xs => zcl x ∧ zsO xs
def zcl : List zam → Prop
 | [] => True
 | x :: xs => zrS x ∧ zcl xs
def zjo : List zaf → Prop
 | [] => True
 | x :: xs => zuv x ∧ zjo xs
def zuv : zaf → Prop
 | .mk v ⟨_, l⟩ => zpX v ∧ zcl l
end
theorem zsM (x : zam) : zrS x ↔ zl2 x.coeff ∧ zge x.factors.l := by rcases x with ⟨c, ⟨f, l⟩⟩; simp only [zrS, zam.coeff, zam.factors]
theorem zpq (x : zaj) : zgZ x ↔ zk5 x.atom ∧ zl2 x.exp := by cases x; simp only [zgZ, zaj.atom, zaj.exp]
theorem zww (x : zaf) : zuv x ↔ zpX x.value ∧ zcl x.ann.l := by rcases x with ⟨v, ⟨f, l⟩⟩; simp only [zuv, zaf.value, zaf.ann]
theorem zlS (x : zap) : zk5 x ↔ zl2 x.kind ∧ zAj x.row ∧ zsO x.args.l ∧ zl2 x.func ∧ zjo x.items.l ∧ zl2 x.op ∧ zpX x.bound := by
 rcases x with ⟨k, r, ⟨f, a⟩, fn, ⟨g, i⟩, o, b⟩; simp only [zk5, zap.kind, zap.row, zap.args, zap.func, zap.items, zap.op, zap.bound]
theorem zx2 (l : List zam) : zcl l ↔ ∀ x ∈ l, zrS x := by
 induction l with
 | nil => simp [zcl]
 | cons x l ih => simp [zcl, ih]
theorem zu9 (l : List zaj) : zge l ↔ ∀ x ∈ l, zgZ x := by
 induction l with
 | nil => simp [zge]
 | cons x l ih => simp [zge, ih]
theorem zx3 (l : List zaf) : zjo l ↔ ∀ x ∈ l, zuv x := by
 induction l with
 | nil => simp [zjo]
 | cons x l ih => simp [zjo, ih]
theorem zAk (l : List (Sl zam)) : zsO l ↔ ∀ x ∈ l, zcl x.l := by
 induction l with
 | nil => simp [zsO]
 | cons x l ih => cases x; simp [zsO, ih]
def zfB {α : Type} (f : α → Nat) : List α → Nat
 | [] => 0
 | x :: l => f x + zfB f l
theorem zyf (l : List zam) : zal l = zfB (fun x => zcY x + 1) l := by
 induction l with
 | nil => rfl
 | cons x l ih => simp only [zal, zfB, ih]; omega
theorem zvg (l : List zaj) : za1 l = zfB (fun x => zds x + 1) l := by
 induction l with
 | nil => rfl
 | cons x l ih => simp only [za1, zfB, ih]; omega
theorem zyg (l : List zaf) : zbB l = zfB (fun x => zeV x + 1) l := by
 induction l with
 | nil => rfl
 | cons x l ih => simp only [zbB, zfB, ih]; omega
end Go.Ev
set_option linter.unusedVariables false
namespace Go.Ev
def zf3 (a b : Sl zaj) : Int := zdW a.l b.l
def zgL (a b : Sl zaf) : Int := zgA a.l b.l
end Go.Ev
set_option linter.unusedVariables false
namespace Go.Ev
def zAQ (a : Int) : Bool := false
def znS : List Int → Int
 | [] => 0
 | x :: l => orI x (znS l)
def orL (a : Sl Int) : Int := znS a.l
def zd6 (a b : zam) : Int := zdW a.factors.l b.factors.l
def zmP (a b : Sl (Sl zam)) : Int := ziN a.l b.l
noncomputable def zip (kk : Nat) (a : Int) : Option (Bool) :=
 some (a != a)
noncomputable def zhg (kk : Nat) (a : Int) : Option (Bool) :=
 some (a != a)
noncomputable def zhh (kk : Nat) (a : Int) (b : Int) : Option (Int) :=
 sel (
  sel (
   some 0) (
   some (-1)) ((zAQ b))) (
  sel (
   some 1) (
   sel (
    some (-1)) (
    sel (
     some 1) (
     some 0) (decide (b < a))) (decide (a < b))) ((zAQ b))) ((zAQ a))
noncomputable def zhP (kk : Nat) (a : Int) (b : Int) : Option (Int) :=
 sel (
  sel (
   some 0) (
   some (-1)) ((zAQ b))) (
  sel (
   some 1) (
   sel (
    some (-1)) (
    sel (
     some 1) (
     some 0) (decide (b < a))) (decide (a < b))) ((zAQ b))) ((zAQ a))
noncomputable def zdv (c1 : Sl Int) (c2 : Int) (kk : Nat) : Nat → Int → Option (Out (Int) (Int))
 | 0, _ => none
 | k + 1, s3 =>
   sel (
    bnd (ix c1.l s3) fun (y4 : Int) =>
    sel (
     some (.ret y4)) (
     zdv c1 c2 kk k (IntKind.wrap .i64 (s3 + 1))) (y4 != 0)) (
    some (.done s3)) (decide (s3 < c2))
noncomputable def zli (kk : Nat) (a : (Sl Int)) : Option (Int) :=
 zkl (zdv a (a.l.length : Int) kk kk 0) (fun r => some r) fun (q5 : Int) =>
  some 0
noncomputable def zim (kk : Nat) (a : Val) (b : Val) : Option (Int) :=
 bnd (okP ((Sl.of [(ziw a.kind b.kind), (ziw a.int b.int), (zDp a.text b.text)]).l.length < 100)) fun _ =>
 some (orL (Sl.of [(ziw a.kind b.kind), (ziw a.int b.int), (zDp a.text b.text)]))
noncomputable def zfA (kk : Nat) (sz : Nat) (a : (Sl zam)) (b : (Sl zam)) : Option (Int) :=
 bnd (okP (8 * (zal a.l + zal b.l) + 6 < sz)) fun _ =>
 some (zgM a b)
noncomputable def zbk (c1 : Sl zam) (c2 : Sl zam) (c3 : Sl zam) (c4 : Int) (sz : Nat) (kk : Nat) : Nat → Int → Option (Out (Int) (Int))
 | 0, _ => none
 | k + 1, s5 =>
   sel (
    bnd (ix c3.l s5) fun (y6 : zam) =>
    sel (
     some (.ret 1)) (
     bnd (ix c2.l s5) fun (y7 : zam) =>
     bnd (okP (8 * (zcY y6 + zcY y7) + 5 < sz)) fun _ =>
     sel (
      some (.ret (zhL y6 y7))) (
      zbk c1 c2 c3 c4 sz kk k (IntKind.wrap .i64 (s5 + 1))) ((zhL y6 y7) != 0)) (decide ((c2.l.length : Int) ≤ s5))) (
    some (.done s5)) (decide (s5 < c4))
noncomputable def zbp (kk : Nat) (sz : Nat) (a : (Sl zam)) (b : (Sl zam)) : Option (Int) :=
 zkl (zbk a b a (a.l.length : Int) sz kk kk 0) (fun r => some r) fun (q9 : Int) =>
  sel (
   some (-1)) (
   some 0) (decide ((a.l.length : Int) < (b.l.length : Int)))
noncomputable def zeR (kk : Nat) (sz : Nat) (a : zam) (b : zam) : Option (Int) :=
 bnd (okP (8 * (zcY a + zcY b) + 4 < sz)) fun _ =>
 bnd (okP ((Sl.of [(zd6 a b), (ziw a.coeff b.coeff)]).l.length < 100)) fun _ =>
 some (orL (Sl.of [(zd6 a b), (ziw a.coeff b.coeff)]))
noncomputable def zdz (kk : Nat) (sz : Nat) (a : zam) (b : zam) : Option (Int) :=
 bnd (okP (8 * (za1 a.factors.l + za1 b.factors.l) + 7 < sz)) fun _ =>
 some (zf3 a.factors b.factors)
noncomputable def zaZ (c1 : Sl zaj) (c2 : Sl zaj) (c3 : Sl zaj) (c4 : Int) (sz : Nat) (kk : Nat) : Nat → Int → Option (Out (Int) (Int))
 | 0, _ => none
 | k + 1, s5 =>
   sel (
    bnd (ix c3.l s5) fun (y6 : zaj) =>
    sel (
     some (.ret 1)) (
     bnd (ix c2.l s5) fun (y7 : zaj) =>
     bnd (okP (8 * (zds y6 + zds y7) + 5 < sz)) fun _ =>
     sel (
      some (.ret (zeE y6 y7))) (
      zaZ c1 c2 c3 c4 sz kk k (IntKind.wrap .i64 (s5 + 1))) ((zeE y6 y7) != 0)) (decide ((c2.l.length : Int) ≤ s5))) (
    some (.done s5)) (decide (s5 < c4))
noncomputable def za6 (kk : Nat) (sz : Nat) (a : (Sl zaj)) (b : (Sl zaj)) : Option (Int) :=
 zkl (zaZ a b a (a.l.length : Int) sz kk kk 0) (fun r => some r) fun (q9 : Int) =>
  sel (
   some (-1)) (
   some 0) (decide ((a.l.length : Int) < (b.l.length : Int)))
noncomputable def zcU (kk : Nat) (sz : Nat) (a : zaj) (b : zaj) : Option (Int) :=
 bnd (okP (8 * (zdp a.atom + zdp b.atom) + 7 < sz)) fun _ =>
 bnd (okP ((Sl.of [(zf4 a.atom b.atom), (ziw a.exp b.exp)]).l.length < 100)) fun _ =>
 some (orL (Sl.of [(zf4 a.atom b.atom), (ziw a.exp b.exp)]))
noncomputable def zdB (kk : Nat) (sz : Nat) (a : zap) (b : zap) : Option (Int) :=
 bnd (okP (8 * (zdq a.args.l + zdq b.args.l) + 6 < sz)) fun _ =>
 bnd (okP (8 * (zbB a.items.l + zbB b.items.l) + 6 < sz)) fun _ =>
 bnd (okP ((Sl.of [(ziw a.kind b.kind), (ziw a.row.table b.row.table), (ziw a.row.seq b.row.seq), (zmP a.args b.args), (ziw a.func b.func), (zgL a.items b.items), (ziw a.op b.op), (zkt a.bound b.bound)]).l.length < 100)) fun _ =>
 some (orL (Sl.of [(ziw a.kind b.kind), (ziw a.row.table b.row.table), (ziw a.row.seq b.row.seq), (zmP a.args b.args), (ziw a.func b.func), (zgL a.items b.items), (ziw a.op b.op), (zkt a.bound b.bound)]))
noncomputable def za7 (c1 : Sl (Sl zam)) (c2 : Sl (Sl zam)) (c3 : Sl (Sl zam)) (c4 : Int) (sz : Nat) (kk : Nat) : Nat → Int → Option (Out (Int) (Int))
 | 0, _ => none
 | k + 1, s5 =>
   sel (
    bnd (ix c3.l s5) fun (y6 : (Sl zam)) =>
    sel (
     some (.ret 1)) (
     bnd (ix c2.l s5) fun (y7 : (Sl zam)) =>
     bnd (okP (8 * (zal y6.l + zal y7.l) + 7 < sz)) fun _ =>
     sel (
      some (.ret (zgM y6 y7))) (
      za7 c1 c2 c3 c4 sz kk k (IntKind.wrap .i64 (s5 + 1))) ((zgM y6 y7) != 0)) (decide ((c2.l.length : Int) ≤ s5))) (
    some (.done s5)) (decide (s5 < c4))
noncomputable def zbi (kk : Nat) (sz : Nat) (a : (Sl (Sl zam))) (b : (Sl (Sl zam))) : Option (Int) :=
 zkl (za7 a b a (a.l.length : Int) sz kk kk 0) (fun r => some r) fun (q9 : Int) =>
  sel (
   some (-1)) (
   some 0) (decide ((a.l.length : Int) < (b.l.length : Int)))
noncomputable def zaY (c1 : Sl zaf) (c2 : Sl zaf) (c3 : Sl zaf) (c4 : Int) (sz : Nat) (kk : Nat) : Nat → Int → Option (Out (Int) (Int))
 | 0, _ => none
 | k + 1, s5 =>
   sel (
    bnd (ix c3.l s5) fun (y6 : zaf) =>
    sel (
     some (.ret 1)) (
     bnd (ix c2.l s5) fun (y7 : zaf) =>
     bnd (okP (8 * (zeV y6 + zeV y7) + 5 < sz)) fun _ =>
     sel (
      some (.ret (zeD y6 y7))) (
      zaY c1 c2 c3 c4 sz kk k (IntKind.wrap .i64 (s5 + 1))) ((zeD y6 y7) != 0)) (decide ((c2.l.length : Int) ≤ s5))) (
    some (.done s5)) (decide (s5 < c4))
noncomputable def za5 (kk : Nat) (sz : Nat) (a : (Sl zaf)) (b : (Sl zaf)) : Option (Int) :=
 zkl (zaY a b a (a.l.length : Int) sz kk kk 0) (fun r => some r) fun (q9 : Int) =>
  sel (
   some (-1)) (
   some 0) (decide ((a.l.length : Int) < (b.l.length : Int)))
noncomputable def zdA (kk : Nat) (sz : Nat) (a : zaf) (b : zaf) : Option (Int) :=
 bnd (okP (8 * (zal a.ann.l + zal b.ann.l) + 7 < sz)) fun _ =>
 bnd (okP ((Sl.of [(zkt a.value b.value), (zgM a.ann b.ann)]).l.length < 100)) fun _ =>
 some (orL (Sl.of [(zkt a.value b.value), (zgM a.ann b.ann)]))
end Go.Ev
namespace Go.Ev
def Evn (P : Nat → Prop) : Prop := ∃ N, ∀ n, N ≤ n → P n
structure zQd (p : Prop) : Prop where
 h : p
theorem evT : Evn fun _ => True := ⟨0, fun _ _ => trivial⟩
theorem Evn.and {P Q : Nat → Prop} (E : Evn P) (k : ∃ N, ∀ n, N ≤ n → Q n) : Evn fun n => P n ∧ Q n := by
 obtain ⟨M, E⟩ := E
 obtain ⟨N, k⟩ := k
 exact ⟨M + N, fun n h => ⟨E n (by omega), k n (by omega)⟩⟩
theorem Evn.lj {P Q : Nat → Prop} (E : Evn P) (k : ∃ N, ∀ n, N ≤ n → Q n) : ∃ N, zQd (∀ n, N ≤ n → Q n) ∧ Evn fun n => P n ∧ N ≤ n := by
 obtain ⟨N, k⟩ := k
 exact ⟨N, ⟨k⟩, E.and ⟨N, fun _ h => h⟩⟩
theorem Evn.lp {P : Nat → Prop} {Q : Nat → Nat → Prop} (E : Evn P) (k : ∃ N, ∀ n, N ≤ n → ∀ k, N ≤ k → Q n k) : ∃ N, zQd (∀ n, N ≤ n → Q n n) ∧ Evn fun n => P n ∧ N ≤ n := by
 obtain ⟨N, k⟩ := k
 exact ⟨N, ⟨fun n h => k n h n h⟩, E.and ⟨N, fun _ h => h⟩⟩
theorem Evn.s {P Q : Nat → Prop} (E : Evn P) (f : ∀ n, P n → Q (n + 1)) : ∃ N, ∀ n, N ≤ n → Q n := by
 obtain ⟨M, E⟩ := E
 refine ⟨M + 1, fun n h => ?_⟩
 obtain ⟨n, rfl⟩ := zIH h
 exact f n (E n (by omega))
theorem Evn.j {P Q : Nat → Prop} (E : Evn P) (f : ∀ n, P n → Q n) : ∃ N, ∀ n, N ≤ n → Q n := by
 obtain ⟨M, E⟩ := E
 exact ⟨M, fun n h => f n (E n h)⟩
theorem Evn.l {P : Nat → Prop} {Q : Nat → Nat → Prop} (E : Evn P) (f : ∀ n k, P n → Q n (k + 1)) : ∃ N, ∀ n, N ≤ n → ∀ k, N ≤ k → Q n k := by
 obtain ⟨M, E⟩ := E
 refine ⟨M + 1, fun n h k hk => ?_⟩
 obtain ⟨k, rfl⟩ := zIH hk
 exact f n k (E n (by omega))
theorem Evn.c {P : Nat → Prop} {I Q : Nat → Nat → Prop} (E : Evn P) (i : ∃ N, ∀ n, N ≤ n → ∀ k, N ≤ k → I n k) (f : ∀ n k, P n → zQd (I n k) → Q n (k + 1)) : ∃ N, ∀ n, N ≤ n → ∀ k, N ≤ k → Q n k := by
 obtain ⟨M, E⟩ := E
 obtain ⟨N, i⟩ := i
 refine ⟨M + N + 1, fun n h k hk => ?_⟩
 obtain ⟨k, rfl⟩ := zIH hk
 exact f n k (E n (by omega)) ⟨i n (by omega) k (by omega)⟩
theorem em2 (p : Prop) : p ∨ (p = False) := (Classical.em p).imp id eq_false
section
variable {α : Type} {d : D} {m : Mem} {g T sz a b c' n : Nat} {c : α → List D} {l : List α} {r : Sl α} {Ts : List Nat}
@[go_sem] theorem zI1 (cells : List D) : zcS (.ptr (.loc T 0) g 0 0) m T sz cells = (m (.loc T 0) = some (.rows g false true sz [cells])) := by
  simp [zcS]
@[go_sem] theorem zHz (cells : List D) : zxT (.ptr (.loc T 0) g 0 0) m T sz cells = (m (.loc T 0) = some (.rows g false false sz [cells])) := by
  simp [zxT]
@[go_sem] theorem zIZ : zHo (.own (.loc T 0) g 0 n) m T sz c l = (n = l.length ∧ m (.loc T 0) = some (.rows g false true sz (l.map c))) := by
  apply propext
  constructor
  · rintro ⟨g', h, k⟩; cases h; exact ⟨rfl, k⟩
  · rintro ⟨rfl, k⟩; exact ⟨g, rfl, k⟩
@[go_sem] theorem zGN (s : Str) (p : Nat) : ztS (.iter (.loc T 0) g) m T s p = (m (.loc T 0) = some (.siter g s p)) := by
  simp [ztS]
@[go_sem] theorem zNB (rows : List Row) : zoU (.sl .nil rows) m Ts sz c l = (rows = [] ∧ l = []) := by
  apply propext
  constructor
  · rintro (⟨h, k⟩ | ⟨T, _, g', h, _⟩)
    · cases h; exact ⟨rfl, k⟩
    · cases h
  · rintro ⟨rfl, k⟩; exact .inl ⟨rfl, k⟩
@[go_sem] theorem zI0 : zoU (.own (.loc T 0) g 0 n) m Ts sz c l = (Ts.contains T = true ∧ n = l.length ∧ m (.loc T 0) = some (.rows g false true sz (l.map c)) ∧ (l = []) = False) := by
  apply propext
  constructor
  · rintro (⟨h, k⟩ | ⟨T, hT, g', h, k, k'⟩)
    · cases h
    · cases h; exact ⟨by simpa using hT, rfl, k, k'⟩
  · rintro ⟨hT, rfl, k, k'⟩; exact .inr ⟨T, by simpa using hT, g, rfl, k, k'⟩
@[go_sem] theorem zIX : zwq (.own (.loc T 0) g 0 n) m Ts sz c ⟨.any, l⟩ = (Ts.contains T = true ∧ n = l.length ∧ m (.loc T 0) = some (.rows g false true sz (l.map c))) := by
  apply propext
  constructor
  · rintro (h | ⟨T, hT, l, hl, g', h, k⟩)
    · cases h
    · cases h; cases hl; exact ⟨by simpa using hT, rfl, k⟩
  · rintro ⟨hT, rfl, k⟩; exact .inr ⟨T, by simpa using hT, l, rfl, g, rfl, k⟩
@[go_sem] theorem zES (f : Fl) (rows : List Row) : zwq (.sl f rows) m Ts sz c r = (.sl f rows = dSl c r) := by
  apply propext
  constructor
  · rintro (h | ⟨T, hT, l, hl, g', h, k⟩)
    · exact h
    · cases h
  · exact .inl
@[go_sem] theorem zIY (s : Sl α) : zwq (dSl c s) m Ts sz c r = (dSl c s = dSl c r) := zES _ _
theorem zxb (h : zoU d m Ts sz c l) : (d = .sl .nil [] ∧ l = []) ∨ ∃ T, T ∈ Ts ∧ ∃ g, d = .own (.loc T 0) g 0 l.length ∧ m (.loc T 0) = some (.rows g false true sz (l.map c)) ∧ (l = []) = False := h
theorem znY (h : zoU d m [a] sz c l) : (d = .sl .nil [] ∧ l = []) ∨ ∃ g, d = .own (.loc a 0) g 0 l.length ∧ m (.loc a 0) = some (.rows g false true sz (l.map c)) ∧ (l = []) = False := by
 simpa using zxb h
theorem zFQ (h : zoU d m [a, b, c'] sz c l) : (d = .sl .nil [] ∧ l = []) ∨ (∃ g, d = .own (.loc a 0) g 0 l.length ∧ m (.loc a 0) = some (.rows g false true sz (l.map c)) ∧ (l = []) = False) ∨ (∃ g, d = .own (.loc b 0) g 0 l.length ∧ m (.loc b 0) = some (.rows g false true sz (l.map c)) ∧ (l = []) = False) ∨ ∃ g, d = .own (.loc c' 0) g 0 l.length ∧ m (.loc c' 0) = some (.rows g false true sz (l.map c)) ∧ (l = []) = False := by
 simpa using zxb h
theorem zCJ (h : zwq d m Ts sz c r) : d = dSl c r ∨ ∃ T, T ∈ Ts ∧ ∃ l, r = Sl.of l ∧ ∃ g, d = .own (.loc T 0) g 0 l.length ∧ m (.loc T 0) = some (.rows g false true sz (l.map c)) := h
theorem zxa (h : zwq d m [a] sz c r) : d = dSl c r ∨ ∃ l g, r = Sl.of l ∧ d = .own (.loc a 0) g 0 l.length ∧ m (.loc a 0) = some (.rows g false true sz (l.map c)) := by
 rcases zCJ h with h | ⟨T, hT, l, hl, g, h', k⟩
 · exact .inl h
 · obtain rfl := List.mem_singleton.1 hT; exact .inr ⟨l, g, hl, h', k⟩
end
@[go_sem] theorem zSp (k : IntKind) (l : List Int) : ((l.map (cI k)).all fun r => List.length r == 1) = true := by simp [cI]
@[go_sem] theorem zQB {α : Type} (c : α → List D) (s : Sl α) : zkf (dSl c s) = pure (s.l.map c, [], true) := rfl
def zD5 (k : IntKind) (x y : Int) : Int := k.wrap (BitVec.ofInt k.bits x ^^^ BitVec.ofInt k.bits y).toNat
def zsx (k : IntKind) (x y : Int) : Int := x.fdiv (2 ^ min y.toNat k.bits)
def zDE (k : IntKind) (x y : Int) : Int := k.wrap (BitVec.ofInt k.bits x &&& BitVec.ofInt k.bits y).toNat
def orK (k : IntKind) (x y : Int) : Int := k.wrap (BitVec.ofInt k.bits x ||| BitVec.ofInt k.bits y).toNat
def zEo (k : IntKind) (x y : Int) : Int := k.wrap (x * 2 ^ min y.toNat k.bits)
@[go_sem] theorem zQc (k : IntKind) (x y : Int) : zDE k x y = k.wrap (BitVec.ofInt k.bits x &&& BitVec.ofInt k.bits y).toNat := rfl
@[go_sem] theorem zQi (k : IntKind) (x y : Int) : orK k x y = k.wrap (BitVec.ofInt k.bits x ||| BitVec.ofInt k.bits y).toNat := rfl
@[go_sem] theorem zNw (k : IntKind) (x y : Int) : zEo k x y = k.wrap (x * 2 ^ min y.toNat k.bits) := rfl
@[go_sem] theorem zNu (k : IntKind) (x y : Int) : zD5 k x y = k.wrap (BitVec.ofInt k.bits x ^^^ BitVec.ofInt k.bits y).toNat := rfl
@[go_sem] theorem zNv (k : IntKind) (x y : Int) : zsx k x y = x.fdiv (2 ^ min y.toNat k.bits) := rfl
@[go_sem] def zHE {α : Type} (l : List α) : Bool := open Classical in if l = [] then true else false
def zsc {α : Type} (m : Mem) (i g sz : Nat) (cells : D → List D) (Ts : List Nat) (esz : Nat) (c : α → List D) (l : List α) : Prop :=
 ∃ d, m (.arg i) = some (.rows g false (zHE l) sz [cells d]) ∧ zoU d m Ts esz c l
theorem zg6 {body : (Ex → St → Option Res) → St → Option Res} {k : Ex → St → Option Res} {n : Nat} {s : St} {t : Tok (body, k, n)} {R : Option Res → Prop} (h : R (zc0 body k n s)) : R (zDc body k n t s) := h
end Go.Ev
namespace Go.Ev
mutual
theorem zp8 : ∀ (a : D), zk8 a a = true
 | .bool a => by simp [zk8]
 | .int j a => by simp [zk8]
 | .str a => by simp [zk8]
 | .nilp => rfl
 | .ptr b g r o => by simp [zk8]
 | .eptr a o => by simp [zk8, ziD a]
 | .sl f a => by simp [zk8, zq4 a]
 | .own b g r o => by simp [zk8]
 | .nilm => rfl
 | .map b g => by simp [zk8]
 | .iter b g => by simp [zk8]
 | .fn f a b => by simp [zk8, ziD a, ziD b]
 | .nilf => rfl
 | .iface t v => by simp [zk8, zp8 v]
 | .nili => rfl
 | .agg a => by simp [zk8, ziD a]
 | .tup a => by simp [zk8, ziD a]
 | .unk => rfl
theorem ziD : ∀ (l : List D), zq5 l l = true
 | [] => rfl
 | a :: r => by simp [zq5, zp8 a, ziD r]
theorem zq4 : ∀ (l : List (List D)), zvo l l = true
 | [] => rfl
 | a :: r => by simp [zvo, ziD a, zq4 r]
end
theorem zuE : ∀ (l : List Ent), zwK l l = true
 | [] => rfl
 | a :: r => by simp [zwK, zp8, zuE r]
theorem zAr (a : Blk) : zB3 a a = true := by cases a <;> simp [zB3, zq4, zuE]
theorem zs3 : ∀ (l : List Blk), zp9 l l = true
 | [] => rfl
 | a :: r => by simp [zp9, zAr, zs3 r]
theorem zu5 {R : Option Res} : ∀ (l : List (Option Res)), l ≠ [] → (∀ r ∈ l, r = R) → ztM l = R
 | [], h, _ => absurd rfl h
 | [r], _, h => h r (by simp)
 | r :: q :: l, _, h => by
   have h1 := zu5 (q :: l) (by simp) (fun x hx => h x (by simp [List.mem_cons.1 hx]))
   have h2 := h r (by simp)
   rw [ztM, h1, h2]
   cases R with
   | none => simp [zyo]
   | some a => simp [zyo, zp8, zs3]
theorem zBI {k : D × Ups → Option Res} {R : Option Res} {l : List (D × Ups)} (hl : l ≠ []) (h : ∀ r ∈ l, k r = R) : ways k l = R := by
 match l, hl, h with
 | [r], _, h => exact h r (by simp)
 | r :: q :: l, _, h =>
   rw [ways]
   exact zu5 _ (by simp) (fun x hx => by obtain ⟨y, hy, rfl⟩ := List.mem_map.1 hx; exact h y hy)
theorem zBH {k : D × Ups → Option Res} {t : Tok k} {R : Option Res} {l : List (D × Ups)} (hl : l ≠ []) (h : ∀ r ∈ l, k r = R) : zGg k t l = R := zBI hl h
end Go.Ev
namespace Go.Ev
@[go_sem] theorem zHr (s : Str) : (s2b s).length = s.length := by simp [s2b]
@[go_sem] theorem zNL {α : Type} (c : α → List D) (s : Sl α) : zrj (dSl c s) = false := rfl
@[go_sem] theorem zGV (x : zhF) : ztq (zjZ x) = false := rfl
end Go.Ev
namespace Go.Ev
open Go
def zsC (rs : List Row) (i j : Nat) : Option D := bnd rs[i]? fun r => r[j]?
abbrev at_ (b o : Nat) : Addr := ⟨b, o, none⟩
inductive ziZ (S : Nat → Prop) (w : World) : Value → D → Prop where
 | bool (b : Bool) : ziZ S w (.bool b) (.bool b)
 | int (k : IntKind) (n : Int) : ziZ S w (.int k n) (.int k n)
 | str (s : List UInt8) : ziZ S w (.string ⟨s.toArray⟩) (.str s)
 | nilp : ziZ S w (.pointer none) .nilp
 | nilm : ziZ S w (.map none) .nilm
 | nilf : ziZ S w .nilFunc .nilf
 | nili : ziZ S w .nilIface .nili
 | iface (t : TypeId) (v : Value) (d : D) (h : ziZ S w v d) : ziZ S w (.iface t v) (.iface t d)
 | nilsl : ziZ S w (.slice none 0 0) (.sl .nil [])
 | esl (f : Fl) (a : Addr) (hf : f ≠ .nil) : ziZ S w (.slice (some a) 0 0) (.sl f [])
 | sl (f : Fl) (rs : List Row) (b o cap sz : Nat) (u : Nat → Nat → Value) (hf : f ≠ .nil) (hfull : f = .full → cap = rs.length) (hcap : rs.length ≤ cap) (hsz : 0 < sz)
  (hlen : ∀ r ∈ rs, r.length = sz) (hst : rs ≠ [] → S b) (hc : ∀ i j d, zsC rs i j = some d → w.cell? (at_ b (o + (i * sz + j))) = some (u i j))
  (hr : ∀ i j d, zsC rs i j = some d → ziZ S w (u i j) d) (hcell : ∀ i j d, zsC rs i j = some d → cell d = true) : ziZ S w (.slice (some (at_ b o)) rs.length cap) (.sl f rs)
def zhU (w : World) (r : Nat) : Nat :=
 match w.heap[r]? with
 | some (.cells c _ _) => c.size
 | _ => 0
abbrev Loc := Nm → Nat × Nat
inductive Rep (S : Nat → Prop) (w : World) (ι : Loc) (m : Mem) : Value → D → Prop where
 | ext (v : Value) (d : D) (h : ziZ S w v d) : Rep S w ι m v d
 | ptr (b : Nm) (g r o : Nat) (a : Addr) (hb : ∃ k, m b = some k ∧ g ≤ k.gen)
  (ha : ∀ fz cl sz rs, m b = some (.rows g fz cl sz rs) → a = at_ (ι b).1 ((ι b).2 + (r * sz + o))) : Rep S w ι m (.pointer (some a)) (.ptr b g r o)
 | eptr (row : Row) (o b base : Nat) (u : Nat → Value) (hst : row ≠ [] → S b) (hc : ∀ (i : Nat) (d : D), row[i]? = some d → w.cell? (at_ b (base + i)) = some (u i))
  (hr : ∀ (i : Nat) (d : D), row[i]? = some d → ziZ S w (u i) d) (hcell : ∀ (i : Nat) (d : D), row[i]? = some d → cell d = true) : Rep S w ι m (.pointer (some (at_ b (base + o)))) (.eptr row o)
 | own (b : Nm) (g off len cap : Nat) (a : Addr) (hb : ∃ k, m b = some k ∧ g ≤ k.gen) (hcap : len ≤ cap) (hat : a.spot = none)
  (ha : ∀ fz cl sz rs, m b = some (.rows g fz cl sz rs) → (0 < cap → a = at_ (ι b).1 ((ι b).2 + off * sz)) ∧ (ι b).2 + (off + cap) * sz ≤ zhU w (ι b).1) :
  Rep S w ι m (.slice (some a) len cap) (.own b g off len)
 | map (b : Nm) (g r : Nat) (hb : ∃ k, m b = some k ∧ g ≤ k.gen) (ha : ∀ cl es c, m b = some (.map g cl es c) → r = (ι b).1) : Rep S w ι m (.map (some r)) (.map b g)
 | iter (b : Nm) (g r : Nat) (hb : ∃ k, m b = some k ∧ g ≤ k.gen) (ha : ∀ k, m b = some k → k.gen = g → r = (ι b).1) : Rep S w ι m (.pointer (some (at_ r 0))) (.iter b g)
 | fn (f : Fn) (vf vc : Array Value) (fi ca : List D) (l1 : vf.size = fi.length) (l2 : vc.size = ca.length)
  (h1 : ∀ (i : Nat) (v : Value) (d : D), vf[i]? = some v → fi[i]? = some d → Rep S w ι m v d) (h2 : ∀ (i : Nat) (v : Value) (d : D), vc[i]? = some v → ca[i]? = some d → Rep S w ι m v d) : Rep S w ι m (.func f vf vc) (.fn f fi ca)
 | iface (t : TypeId) (v : Value) (d : D) (h : Rep S w ι m v d) : Rep S w ι m (.iface t v) (.iface t d)
 | agg (cs : Array Value) (ds : List D) (l : cs.size = ds.length) (h : ∀ (i : Nat) (v : Value) (d : D), cs[i]? = some v → ds[i]? = some d → Rep S w ι m v d) (hcell : ∀ d ∈ ds, cell d = true) : Rep S w ι m (.agg cs) (.agg ds)
 | tup (cs : Array Value) (ds : List D) (l : cs.size = ds.length) (h : ∀ (i : Nat) (v : Value) (d : D), cs[i]? = some v → ds[i]? = some d → Rep S w ι m v d) : Rep S w ι m (.tuple cs) (.tup ds)
 | unk (v : Value) : Rep S w ι m v .unk
def zha : Blk → Blk → Prop
 | .rows g _ _ sz _, .rows g' _ _ sz' _ => g = g' ∧ sz = sz'
 | .map g _ _ _, .map g' _ _ _ => g = g'
 | .siter g _ _, .siter g' _ _ => g = g'
 | .miter g _ _ _ _, .miter g' _ _ _ _ => g = g'
 | _, _ => False
theorem zha.refl (k : Blk) : zha k k := by cases k <;> simp [zha]
theorem zha.gen {k k' : Blk} (h : zha k k') : k.gen = k'.gen := by
 cases k <;> cases k' <;> simp_all [zha, Blk.gen]
theorem zha.trans {a b c : Blk} (h : zha a b) (k : zha b c) : zha a c := by
 cases a <;> cases b <;> simp_all [zha] <;> cases c <;> simp_all
structure Ext (S : Nat → Prop) (w : World) (ι : Loc) (m : Mem) (S' : Nat → Prop) (w' : World) (ι' : Loc) (m' : Mem) : Prop where
 st : ∀ r, S r → S' r
 old : ∀ r, S r → w'.heap[r]? = w.heap[r]?
 blk : ∀ b k, m b = some k → ∃ k', m' b = some k' ∧ (k.gen < k'.gen ∨ (zha k k' ∧ ι' b = ι b ∧ zhU w (ι b).1 ≤ zhU w' (ι b).1))
theorem Ext.refl (S : Nat → Prop) (w : World) (ι : Loc) (m : Mem) : Ext S w ι m S w ι m :=
 ⟨fun _ h => h, fun _ _ => rfl, fun _ k h => ⟨k, h, .inr ⟨zha.refl k, rfl, Nat.le_refl _⟩⟩⟩
theorem Ext.trans {S S' S'' : Nat → Prop} {w w' w'' : World} {ι ι' ι'' : Loc} {m m' m'' : Mem} (h : Ext S w ι m S' w' ι' m') (k : Ext S' w' ι' m' S'' w'' ι'' m'') : Ext S w ι m S'' w'' ι'' m'' := by
 refine ⟨fun r hr => k.st r (h.st r hr), fun r hr => (k.old r (h.st r hr)).trans (h.old r hr), fun b x hx => ?_⟩
 obtain ⟨y, hy, hxy⟩ := h.blk b x hx
 obtain ⟨z, hz, hyz⟩ := k.blk b y hy
 refine ⟨z, hz, ?_⟩
 rcases hxy with hxy | ⟨s1, i1, b1⟩
 · rcases hyz with hyz | ⟨s2, _, _⟩
   · exact .inl (Nat.lt_trans hxy hyz)
   · exact .inl (s2.gen ▸ hxy)
 · rcases hyz with hyz | ⟨s2, i2, b2⟩
   · exact .inl (s1.gen ▸ hyz)
   · rw [i1] at i2 b2
     exact .inr ⟨s1.trans s2, i2, Nat.le_trans b1 b2⟩
theorem zqC {w w' : World} {b o : Nat} (h : w'.heap[b]? = w.heap[b]?) : w'.cell? (at_ b o) = w.cell? (at_ b o) := World.cell?_of_block (w := w) h
theorem zGR {rs : List Row} {i j : Nat} {d : D} (h : zsC rs i j = some d) : rs ≠ [] := by
 intro e; subst e; simp [zsC, bnd] at h
theorem zA0 {α : Type} {l : List α} {i : Nat} {d : α} (h : l[i]? = some d) : l ≠ [] := by
 intro e; subst e; simp at h
theorem ziZ.mono {S S' : Nat → Prop} {w w' : World} {v : Value} {d : D} (h : ziZ S w v d) (hS : ∀ r, S r → S' r) (hw : ∀ r, S r → w'.heap[r]? = w.heap[r]?) : ziZ S' w' v d := by
 induction h with
 | bool b => exact .bool b
 | int k n => exact .int k n
 | str s => exact .str s
 | nilp => exact .nilp
 | nilm => exact .nilm
 | nilf => exact .nilf
 | nili => exact .nili
 | iface t v d _ ih => exact .iface t v d ih
 | nilsl => exact .nilsl
 | esl f a hf => exact .esl f a hf
 | sl f rs b o cap sz u hf hfull hcap hsz hlen hst hc _ hcell ih =>
   exact .sl f rs b o cap sz u hf hfull hcap hsz hlen (fun h => hS _ (hst h)) (fun i j d h => by rw [zqC (hw _ (hst (zGR h)))]; exact hc i j d h) ih hcell
theorem Rep.ext' {S S' : Nat → Prop} {w w' : World} {ι ι' : Loc} {m m' : Mem} {v : Value} {d : D} (h : Rep S w ι m v d) (e : Ext S w ι m S' w' ι' m') : Rep S' w' ι' m' v d := by
 have live : ∀ b g, (∃ k, m b = some k ∧ g ≤ k.gen) → ∃ k', m' b = some k' ∧ g ≤ k'.gen := by
  rintro b g ⟨k, hk, hg⟩
  obtain ⟨k', hk', hh⟩ := e.blk b k hk
  refine ⟨k', hk', ?_⟩
  rcases hh with hh | ⟨s, _, _⟩
  · omega
  · have := s.gen; omega
 have back : ∀ b g k', (∃ k, m b = some k ∧ g ≤ k.gen) → m' b = some k' → k'.gen = g → ∃ k, m b = some k ∧ zha k k' ∧ ι' b = ι b ∧ zhU w (ι b).1 ≤ zhU w' (ι b).1 := by
  rintro b g k' ⟨k, hk, hg⟩ hk' hg'
  obtain ⟨k2, hk2, hh⟩ := e.blk b k hk
  rw [hk'] at hk2
  obtain rfl := Option.some.inj hk2
  rcases hh with hh | ⟨s, i, z⟩
  · omega
  · exact ⟨k, hk, s, i, z⟩
 induction h with
 | ext v d h => exact .ext v d (h.mono e.st e.old)
 | ptr b g r o a hb ha =>
   refine .ptr b g r o a (live b g hb) fun fz cl sz rs hm => ?_
   obtain ⟨k, hk, s, i, _⟩ := back b g _ hb hm rfl
   cases k with
   | rows g2 fz2 cl2 sz2 rs2 =>
     simp only [zha] at s
     obtain ⟨rfl, rfl⟩ := s
     rw [i]; exact ha _ _ _ _ hk
   | map _ _ _ _ => exact s.elim
   | siter _ _ _ => exact s.elim
   | miter _ _ _ _ _ => exact s.elim
 | eptr row o b base u hst hc hr hcell =>
   exact .eptr row o b base u (fun h => e.st _ (hst h)) (fun i d h => by rw [zqC (e.old _ (hst (zA0 h)))]; exact hc i d h) (fun i d h => (hr i d h).mono e.st e.old) hcell
 | own b g off len cap a hb hcap hat ha =>
   refine .own b g off len cap a (live b g hb) hcap hat fun fz cl sz rs hm => ?_
   obtain ⟨k, hk, s, i, z⟩ := back b g _ hb hm rfl
   cases k with
   | rows g2 fz2 cl2 sz2 rs2 =>
     simp only [zha] at s
     obtain ⟨rfl, rfl⟩ := s
     rw [i]
     obtain ⟨h1, h2⟩ := ha _ _ _ _ hk
     exact ⟨h1, Nat.le_trans h2 z⟩
   | map _ _ _ _ => exact s.elim
   | siter _ _ _ => exact s.elim
   | miter _ _ _ _ _ => exact s.elim
 | map b g r hb ha =>
   refine .map b g r (live b g hb) fun cl es c hm => ?_
   obtain ⟨k, hk, s, i, _⟩ := back b g _ hb hm rfl
   cases k with
   | map g2 cl2 es2 c2 =>
     simp only [zha] at s
     subst s
     rw [i]; exact ha _ _ _ hk
   | rows _ _ _ _ _ => exact s.elim
   | siter _ _ _ => exact s.elim
   | miter _ _ _ _ _ => exact s.elim
 | iter b g r hb ha =>
   refine .iter b g r (live b g hb) fun k' hm hg => ?_
   obtain ⟨k, hk, s, i, _⟩ := back b g _ hb hm hg
   rw [i]; exact ha k hk (s.gen.trans hg)
 | fn f vf vc fi ca l1 l2 _ _ ih1 ih2 => exact .fn f vf vc fi ca l1 l2 ih1 ih2
 | iface t v d _ ih => exact .iface t v d ih
 | agg cs ds l _ hcell ih => exact .agg cs ds l ih hcell
 | tup cs ds l _ ih => exact .tup cs ds l ih
 | unk v => exact .unk v
end Go.Ev
namespace Go.Ev
open Go
def zf2 : Blk → Bool
 | .rows _ fz _ _ _ => fz
 | .map _ _ _ _ => false
 | .siter _ _ _ => false
 | .miter _ _ _ _ _ => false
structure zpS (S : Nat → Prop) (w : World) (ι : Loc) (m : Mem) (cl : Bool) (e : MapEntry) (d : Ent) : Prop where
 key : ziZ S w e.key d.key
 val : Rep S w ι m e.val d.val
 born : e.born = d.born
 still : cl = true → ids d.val = []
def znG (S : Nat → Prop) (w : World) (ι : Loc) (m : Mem) (r o : Nat) : Blk → Prop
 | .rows _ fz cl sz rs => ∃ (cur : Array Value) (e : TypeId) (lo hi : Nat), w.heap[r]? = some (.cells cur e (lo, hi)) ∧ (fz = false → ∀ x, x < cur.size → ¬(lo ≤ x ∧ x < hi)) ∧ 0 < sz ∧
  (∀ row ∈ rs, row.length = sz) ∧ o + rs.length * sz ≤ cur.size ∧
  ∀ i j d, zsC rs i j = some d → ∃ u, cur[o + (i * sz + j)]? = some u ∧ Rep S w ι m u d ∧ cell d = true ∧ (cl = true → ziZ S w u d)
 | .map _ cl es c => ∃ ents : Array MapEntry, w.heap[r]? = some (.map ents c) ∧ ents.size = es.length ∧ ∀ (i : Nat) (e : MapEntry) (d : Ent), ents[i]? = some e → es[i]? = some d → zpS S w ι m cl e d
 | .siter _ s pos => w.heap[r]? = some (.stringIter ⟨s.toArray⟩ pos)
 | .miter _ mm since seen last => ∃ x, w.heap[r]? = some (.mapIter x since seen.toArray last) ∧ (mm = none → x = none) ∧ ∀ q, mm = some q → ∃ y, x = some y ∧ Rep S w ι m (.map (some y)) (.map q.1 q.2)
theorem znG.lt {S : Nat → Prop} {w : World} {ι : Loc} {m : Mem} {r o : Nat} {k : Blk} (h : znG S w ι m r o k) : r < w.heap.size := by
 have : ∃ x, w.heap[r]? = some x := by
  cases k with
  | rows g fz cl sz rs => obtain ⟨cur, e, lo, hi, h1, _⟩ := h; exact ⟨_, h1⟩
  | map g cl es c => obtain ⟨ents, h1, _⟩ := h; exact ⟨_, h1⟩
  | siter g s p => exact ⟨_, h⟩
  | miter g mm since seen last => obtain ⟨x, h1, _⟩ := h; exact ⟨_, h1⟩
 obtain ⟨x, hx⟩ := this
 rcases Nat.lt_or_ge r w.heap.size with h' | h'
 · exact h'
 · simp [Array.getElem?_eq_none h'] at hx
theorem znG.mono {S S' : Nat → Prop} {w w' : World} {ι ι' : Loc} {m m' : Mem} {r o : Nat} {k : Blk} (h : znG S w ι m r o k) (e : Ext S w ι m S' w' ι' m') (hw : w'.heap[r]? = w.heap[r]?) :
 znG S' w' ι' m' r o k := by
 cases k with
 | rows g fz cl sz rs =>
   obtain ⟨cur, t, lo, hi, h1, h2, h3, h4, h5, h6⟩ := h
   refine ⟨cur, t, lo, hi, hw.trans h1, h2, h3, h4, h5, fun i j d hd => ?_⟩
   obtain ⟨u, a1, a2, a3, a4⟩ := h6 i j d hd
   exact ⟨u, a1, a2.ext' e, a3, fun hc => (a4 hc).mono e.st e.old⟩
 | map g cl es c =>
   obtain ⟨ents, h1, h2, h3⟩ := h
   refine ⟨ents, hw.trans h1, h2, fun i x d hx hd => ?_⟩
   obtain ⟨k1, k2, k3, k4⟩ := h3 i x d hx hd
   exact ⟨k1.mono e.st e.old, k2.ext' e, k3, k4⟩
 | siter g s p => exact hw.trans h
 | miter g mm since seen last =>
   obtain ⟨x, h1, h2, h3⟩ := h
   refine ⟨x, hw.trans h1, h2, fun q hq => ?_⟩
   obtain ⟨y, h4, h5⟩ := h3 q hq
   exact ⟨y, h4, h5.ext' e⟩
structure Sim (S : Nat → Prop) (w : World) (ι : Loc) (m : Mem) : Prop where
 own : ∀ b k, m b = some k → znG S w ι m (ι b).1 (ι b).2 k
 inj : ∀ b b', m b ≠ none → m b' ≠ none → (ι b).1 = (ι b').1 → b = b'
 apart : ∀ b k, m b = some k → zf2 k = false → ¬ S (ι b).1
 fz : ∀ b k, m b = some k → zf2 k = true → S (ι b).1
 lt : ∀ r, S r → r < w.heap.size
structure Pg (S : Nat → Prop) (w : World) (ι : Loc) (m : Mem) (S' : Nat → Prop) (w' : World) (ι' : Loc) (m' : Mem) : Prop where
 ext : Ext S w ι m S' w' ι' m'
 os : w'.os = w.os
 tape : w'.tape = w.tape
 output : w'.output = w.output
 size : w.heap.size ≤ w'.heap.size
 keep : ∀ r, r < w.heap.size → (∀ b k, m b = some k → zf2 k = false → (ι b).1 ≠ r) → w'.heap[r]? = w.heap[r]?
 stB : ∀ r, S' r → S r ∨ w.heap.size ≤ r ∨ ∃ b k, m b = some k ∧ zf2 k = false ∧ (ι b).1 = r
 img : ∀ b k', m' b = some k' → zf2 k' = false → w.heap.size ≤ (ι' b).1 ∨ ∃ b0 k0, m b0 = some k0 ∧ zf2 k0 = false ∧ (ι b0).1 = (ι' b).1
 any : ∀ b k', m' b = some k' → w.heap.size ≤ (ι' b).1 ∨ ∃ b0 k0, m b0 = some k0 ∧ (ι b0).1 = (ι' b).1
theorem Pg.refl (S : Nat → Prop) (w : World) (ι : Loc) (m : Mem) : Pg S w ι m S w ι m :=
 ⟨Ext.refl _ _ _ _, rfl, rfl, rfl, Nat.le_refl _, fun _ _ _ => rfl, fun _ h => .inl h, fun b k h hf => .inr ⟨b, k, h, hf, rfl⟩, fun b k h => .inr ⟨b, k, h, rfl⟩⟩
theorem Pg.trans {S S' S'' : Nat → Prop} {w w' w'' : World} {ι ι' ι'' : Loc} {m m' m'' : Mem} (h : Pg S w ι m S' w' ι' m') (k : Pg S' w' ι' m' S'' w'' ι'' m'') : Pg S w ι m S'' w'' ι'' m'' := by
 refine ⟨h.ext.trans k.ext, k.os.trans h.os, k.tape.trans h.tape, k.output.trans h.output, Nat.le_trans h.size k.size, fun r hr hn => ?_, fun r hr => ?_, fun b x hx hf => ?_, fun b x hx => ?_⟩
 · rw [k.keep r (Nat.lt_of_lt_of_le hr h.size) (fun b x hx hf e => ?_), h.keep r hr hn]
   rcases h.img b x hx hf with h1 | ⟨b0, k0, h1, h2, h3⟩
   · omega
   · exact hn b0 k0 h1 h2 (h3.trans e)
 · rcases k.stB r hr with h1 | h1 | ⟨b, x, hx, hf, e⟩
   · exact h.stB r h1
   · exact .inr (.inl (Nat.le_trans h.size h1))
   · rcases h.img b x hx hf with h2 | ⟨b0, k0, h2, h3, h4⟩
     · exact .inr (.inl (e ▸ h2))
     · exact .inr (.inr ⟨b0, k0, h2, h3, h4.trans e⟩)
 · rcases k.img b x hx hf with h1 | ⟨b1, k1, h1, h2, h3⟩
   · exact .inl (Nat.le_trans h.size h1)
   · rcases h.img b1 k1 h1 h2 with h4 | ⟨b0, k0, h4, h5, h6⟩
     · exact .inl (h3 ▸ h4)
     · exact .inr ⟨b0, k0, h4, h5, h6.trans h3⟩
 · rcases k.any b x hx with h1 | ⟨b1, k1, h1, h3⟩
   · exact .inl (Nat.le_trans h.size h1)
   · rcases h.any b1 k1 h1 with h4 | ⟨b0, k0, h4, h6⟩
     · exact .inl (h3 ▸ h4)
     · exact .inr ⟨b0, k0, h4, h6.trans h3⟩
def Loc.upd (ι : Loc) (b : Nm) (p : Nat × Nat) : Loc := fun x => if x = b then p else ι x
@[simp] theorem Loc.upd_same (ι : Loc) (b : Nm) (p : Nat × Nat) : (ι.upd b p) b = p := by simp [Loc.upd]
theorem Loc.upd_ne (ι : Loc) {b c : Nm} (p : Nat × Nat) (h : c ≠ b) : (ι.upd b p) c = ι c := by simp [Loc.upd, h]
@[simp] theorem Mem.upd_same (m : Mem) (b : Nm) (k : Blk) : (m.upd b k) b = some k := by simp [Mem.upd]
theorem Mem.upd_ne (m : Mem) {b c : Nm} (k : Blk) (h : c ≠ b) : (m.upd b k) c = m c := by simp [Mem.upd, h]
theorem zoL {w w' : World} {r : Nat} (h : w'.heap[r]? = w.heap[r]?) : zhU w' r = zhU w r := by simp [zhU, h]
theorem Mem.upd_some {m : Mem} {b c : Nm} {k k' : Blk} (h : (m.upd b k) c = some k') : (c = b ∧ k' = k) ∨ (c ≠ b ∧ m c = some k') := by
 by_cases e : c = b
 · subst e; rw [Mem.upd_same] at h; exact .inl ⟨rfl, (Option.some.inj h).symm⟩
 · rw [Mem.upd_ne _ _ e] at h; exact .inr ⟨e, h⟩
theorem zmo {S : Nat → Prop} {w w' : World} {ι : Loc} {m : Mem} (hs : Sim S w ι m) (b : Nm) (k' : Blk) (r' o' : Nat)
 (hos : w'.os = w.os) (htape : w'.tape = w.tape) (hout : w'.output = w.output) (hsz : w.heap.size ≤ w'.heap.size)
 (hkeep : ∀ r, r < w.heap.size → r ≠ r' → w'.heap[r]? = w.heap[r]?)
 (hr : (w.heap.size ≤ r') ∨ (∃ k, m b = some k ∧ zf2 k = false ∧ r' = (ι b).1))
 (hgen : ∀ k, m b = some k → k.gen < k'.gen ∨ (zha k k' ∧ (r', o') = ι b ∧ zhU w r' ≤ zhU w' r'))
 (hf : zf2 k' = false)
 (hok : Ext S w ι m S w' (ι.upd b (r', o')) (m.upd b k') → znG S w' (ι.upd b (r', o')) (m.upd b k') r' o' k') :
 Sim S w' (ι.upd b (r', o')) (m.upd b k') ∧ Pg S w ι m S w' (ι.upd b (r', o')) (m.upd b k') := by
 have hSr : ∀ r, S r → r ≠ r' := by
  rintro r h rfl
  rcases hr with h1 | ⟨k, h1, h2, h3⟩
  · have := hs.lt _ h; omega
  · exact hs.apart b k h1 h2 (h3 ▸ h)
 have hother : ∀ c k, m c = some k → c ≠ b → (ι c).1 ≠ r' := by
  intro c k hc hne e
  rcases hr with h1 | ⟨k2, h1, h2, h3⟩
  · have := (hs.own c k hc).lt; omega
  · exact hne (hs.inj c b (by simp [hc]) (by simp [h1]) (e.trans h3))
 have hext : Ext S w ι m S w' (ι.upd b (r', o')) (m.upd b k') := by
  refine ⟨fun _ h => h, fun r h => hkeep r (hs.lt r h) (hSr r h), fun c k hc => ?_⟩
  by_cases e : c = b
  · subst e
    refine ⟨k', Mem.upd_same _ _ _, ?_⟩
    rcases hgen k hc with h1 | ⟨h1, h2, h3⟩
    · exact .inl h1
    · refine .inr ⟨h1, by rw [Loc.upd_same]; exact h2, ?_⟩
      rw [← h2]; exact h3
  · refine ⟨k, by rw [Mem.upd_ne _ _ e]; exact hc, .inr ⟨zha.refl k, Loc.upd_ne _ _ e, ?_⟩⟩
    exact Nat.le_of_eq (zoL (hkeep _ (hs.own c k hc).lt (hother c k hc e))).symm
 refine ⟨⟨fun c k hc => ?_, fun c c' hc hc' e => ?_, fun c k hc hk => ?_, fun c k hc hk => ?_, fun r h => Nat.lt_of_lt_of_le (hs.lt r h) hsz⟩, ⟨hext, hos, htape, hout, hsz, fun r h hn => ?_, fun r h => .inl h, fun c k hc hk => ?_, fun c k hc => ?_⟩⟩
 · rcases Mem.upd_some hc with ⟨rfl, rfl⟩ | ⟨e, hc⟩
   · rw [Loc.upd_same]; exact hok hext
   · rw [Loc.upd_ne _ _ e]
     exact (hs.own c k hc).mono hext (hkeep _ (hs.own c k hc).lt (hother c k hc e))
 · by_cases e1 : c = b
   · by_cases e2 : c' = b
     · exact e1.trans e2.symm
     · exfalso
       subst e1
       rw [Loc.upd_same, Loc.upd_ne _ _ e2] at e
       rw [Mem.upd_ne _ _ e2] at hc'
       obtain ⟨k, hk⟩ := Option.ne_none_iff_exists'.1 hc'
       exact hother c' k hk e2 e.symm
   · by_cases e2 : c' = b
     · exfalso
       subst e2
       rw [Loc.upd_same, Loc.upd_ne _ _ e1] at e
       rw [Mem.upd_ne _ _ e1] at hc
       obtain ⟨k, hk⟩ := Option.ne_none_iff_exists'.1 hc
       exact hother c k hk e1 e
     · rw [Loc.upd_ne _ _ e1, Loc.upd_ne _ _ e2] at e
       rw [Mem.upd_ne _ _ e1] at hc
       rw [Mem.upd_ne _ _ e2] at hc'
       exact hs.inj c c' hc hc' e
 · rcases Mem.upd_some hc with ⟨rfl, rfl⟩ | ⟨e, hc⟩
   · rw [Loc.upd_same]; exact fun h => hSr _ h rfl
   · rw [Loc.upd_ne _ _ e]; exact hs.apart c k hc hk
 · rcases Mem.upd_some hc with ⟨rfl, rfl⟩ | ⟨e, hc⟩
   · rw [hf] at hk; cases hk
   · rw [Loc.upd_ne _ _ e]; exact hs.fz c k hc hk
 · refine hkeep r h ?_
   rintro rfl
   rcases hr with h1 | ⟨k, h1, h2, h3⟩
   · omega
   · exact hn b k h1 h2 h3.symm
 · rcases Mem.upd_some hc with ⟨rfl, rfl⟩ | ⟨e, hc⟩
   · rw [Loc.upd_same]
     rcases hr with h1 | ⟨k0, h1, h2, h3⟩
     · exact .inl h1
     · exact .inr ⟨c, k0, h1, h2, h3.symm⟩
   · rw [Loc.upd_ne _ _ e]; exact .inr ⟨c, k, hc, hk, rfl⟩
 · rcases Mem.upd_some hc with ⟨rfl, rfl⟩ | ⟨e, hc⟩
   · rw [Loc.upd_same]
     rcases hr with h1 | ⟨k0, h1, h2, h3⟩
     · exact .inl h1
     · exact .inr ⟨c, k0, h1, h3.symm⟩
   · rw [Loc.upd_ne _ _ e]; exact .inr ⟨c, k, hc, rfl⟩
theorem zyi {S : Nat → Prop} {w : World} {ι : Loc} {m : Mem} (hs : Sim S w ι m) (b : Nm) (g : Nat) (fz cl : Bool) (sz : Nat) (rs : List Row) (hm : m b = some (.rows g fz cl sz rs)) :
 Sim (fun r => S r ∨ r = (ι b).1) w ι (m.upd b (.rows g true cl sz rs)) ∧ Pg S w ι m (fun r => S r ∨ r = (ι b).1) w ι (m.upd b (.rows g true cl sz rs)) := by
 have hext : Ext S w ι m (fun r => S r ∨ r = (ι b).1) w ι (m.upd b (.rows g true cl sz rs)) := by
  refine ⟨fun _ h => .inl h, fun _ _ => rfl, fun c k hc => ?_⟩
  by_cases e : c = b
  · subst e
    rw [hm] at hc
    obtain rfl := Option.some.inj hc
    exact ⟨_, Mem.upd_same _ _ _, .inr ⟨⟨rfl, rfl⟩, rfl, Nat.le_refl _⟩⟩
  · exact ⟨k, by rw [Mem.upd_ne _ _ e]; exact hc, .inr ⟨zha.refl k, rfl, Nat.le_refl _⟩⟩
 have hnn : ∀ c, (m.upd b (.rows g true cl sz rs)) c ≠ none → m c ≠ none := by
  intro c hc
  by_cases e : c = b
  · subst e; simp [hm]
  · rwa [Mem.upd_ne _ _ e] at hc
 refine ⟨⟨fun c k hc => ?_, fun c c' hc hc' e => hs.inj c c' (hnn c hc) (hnn c' hc') e, fun c k hc hk => ?_, fun c k hc hk => ?_, ?_⟩,
  ⟨hext, rfl, rfl, rfl, Nat.le_refl _, fun _ _ _ => rfl, fun r h => ?_, fun c k hc hk => ?_, fun c k hc => ?_⟩⟩
 · rcases Mem.upd_some hc with ⟨rfl, rfl⟩ | ⟨e, hc⟩
   · obtain ⟨cur, t, lo, hi, h1, _, h3, h4, h5, h6⟩ := (hs.own _ _ hm).mono hext rfl
     exact ⟨cur, t, lo, hi, h1, (fun h => by cases h), h3, h4, h5, h6⟩
   · exact (hs.own c k hc).mono hext rfl
 · rcases Mem.upd_some hc with ⟨rfl, rfl⟩ | ⟨e, hc⟩
   · cases hk
   · rintro (h | h)
     · exact hs.apart c k hc hk h
     · exact e (hs.inj c b (by simp [hc]) (by simp [hm]) h)
 · rcases Mem.upd_some hc with ⟨rfl, rfl⟩ | ⟨e, hc⟩
   · exact .inr rfl
   · exact .inl (hs.fz c k hc hk)
 · rintro r (h | rfl)
   · exact hs.lt r h
   · exact (hs.own _ _ hm).lt
 · rcases h with h | rfl
   · exact .inl h
   · cases fz with
     | true => exact .inl (hs.fz b _ hm rfl)
     | false => exact .inr (.inr ⟨b, _, hm, rfl, rfl⟩)
 · rcases Mem.upd_some hc with ⟨rfl, rfl⟩ | ⟨e, hc⟩
   · cases hk
   · exact .inr ⟨c, k, hc, hk, rfl⟩
 · rcases Mem.upd_some hc with ⟨rfl, rfl⟩ | ⟨e, hc⟩
   · exact .inr ⟨c, _, hm, rfl⟩
   · exact .inr ⟨c, k, hc, rfl⟩
end Go.Ev
