/- Part of a proof. -/
import Derived.Lib.AtoiAll
import Derived.Test.YtaadpbhondmahaaGreatDoorT4
import Derived.Test.YtaadpbhondmahaaGreatDoorT5
set_option linter.all false
namespace Go.Ev
def zuJ : Str -> Str
 | [] => []
 | b :: s => if b = 39 then 39 :: 39 :: zuJ s else b :: zuJ s
def zue (s : Str) : Str := 39 :: (zuJ s ++ [39])
def zJL : Str := [84, 82, 85, 69]
def zCm : Str := [70, 65, 76, 83, 69]
def zdD (v : Val) : Str :=
 if zaE v then (if v.kind = 0 then zb8 v.int else if v.kind = 1 then zue v.text else if v.int = 1 then zJL else zCm) else []
def zj5 (r : zbZ) : Str := if zdY r then 116 :: (zb8 r.table ++ 46 :: zb8 r.seq) else []
def zde : List Str := [[67, 79, 85, 78, 84], [83, 85, 77], [77, 73, 78], [77, 65, 88]]
def zc5 : List Str := [[61], [60, 62], [60], [60, 61], [62], [62, 61]]
def nth (l : List Str) (n : Int) : Str := (l[n.toNat]?).getD []
def zfa : Str := [109, 111, 110, 117, 115, 91]
def zfb : Str := [100, 101, 108, 116, 97, 91]
def zc3 : Str := [97, 98, 115, 101, 110, 116, 91]
def zji : Str := [116, 101, 115, 116, 91]
def zma : Str := [32, 43, 32]
def zrn : Str := [44, 32]
def zl9 : Str := [59, 32]
def zro : Str := [58, 32]
def zlJ : Str := [125, 32]
def txA (l : List Str) (nonempty : Bool) : Str := if nonempty then zfc l zma else [48]
mutual
def zgr : zam -> Str
 | .mk c ⟨_, fs⟩ => if fs.isEmpty then zb8 c else if c = 1 then zfc (zik fs) [42] else zb8 c ++ 42 :: zfc (zik fs) [42]
def zik : List zaj -> List Str
 | [] => []
 | x :: xs => zbI x :: zik xs
def zbI : zaj -> Str
 | .mk a e => if e = 1 then zfK a else zfK a ++ 94 :: zb8 e
def zfK : zas -> Str
 | .mk k r ⟨_, as⟩ f ⟨_, is⟩ o b =>
   if k = 0 then zj5 r
   else if k = 1 then zfa ++ (((zrm as)[0]?).getD [] ++ zrn ++ ((zrm as)[1]?).getD []) ++ [93]
   else if k = 2 then zfb ++ ((zrm as)[0]?).getD [] ++ [93]
   else if k = 3 then zc3 ++ ((zrm as)[0]?).getD [] ++ [93]
   else zji ++ nth zde f ++ 123 :: zfc (zoK is) zl9 ++ zlJ ++ nth zc5 (o - 5) ++ 32 :: zdD b ++ [93]
def zrm : List (Sl zam) -> List Str
 | [] => []
 | ⟨_, x⟩ :: xs => txA (zl8 x) (!x.isEmpty) :: zrm xs
def zl8 : List zam -> List Str
 | [] => []
 | x :: xs => zgr x :: zl8 xs
def zoK : List zae -> List Str
 | [] => []
 | x :: xs => zgs x :: zoK xs
def zgs : zae -> Str
 | .mk v ⟨_, l⟩ => zdD v ++ zro ++ txA (zl8 l) (!l.isEmpty)
end
def zcu (a : Sl zam) : Str := txA (zl8 a.l) (!a.l.isEmpty)
theorem zgt (l : List zaj) : zik l = l.map zbI := by
 induction l with
 | nil => rfl
 | cons x l ih => simp only [zik, yR, ih]
theorem zuw (l : List zam) : zl8 l = l.map zgr := by
 induction l with
 | nil => rfl
 | cons x l ih => simp only [zl8, yR, ih]
theorem zij (l : List zae) : zoK l = l.map zgs := by
 induction l with
 | nil => rfl
 | cons x l ih => simp only [zoK, yR, ih]
theorem ziR (l : List (Sl zam)) : zrm l = l.map zcu := by
 induction l with
 | nil => rfl
 | cons x l ih => cases x; simp only [zrm, yR, ih, zcu]
theorem zpm (x : zam) : zgr x = if x.factors.l.isEmpty then zb8 x.coeff else if x.coeff = 1 then zfc (x.factors.l.map zbI) [42] else zb8 x.coeff ++ 42 :: zfc (x.factors.l.map zbI) [42] := by
 rcases x with ⟨c, ⟨f, l⟩⟩; simp only [zgr, zam.coeff, zam.factors, zgt]; first | done | rfl
theorem zk9 (x : zaj) : zbI x = if x.exp = 1 then zfK x.atom else zfK x.atom ++ 94 :: zb8 x.exp := by cases x; simp only [zbI, zaj.atom, zaj.exp]; first | done | rfl
theorem zm8 (x : zae) : zgs x = zdD x.value ++ zro ++ zcu x.ann := by rcases x with ⟨v, ⟨f, l⟩⟩; simp only [zgs, zae.ann, zae.value, zcu]
theorem zvl (x : zas) : zfK x = if x.kind = 0 then zj5 x.row
 else if x.kind = 1 then zfa ++ (((x.args.l.map zcu)[0]?).getD [] ++ zrn ++ ((x.args.l.map zcu)[1]?).getD []) ++ [93]
 else if x.kind = 2 then zfb ++ ((x.args.l.map zcu)[0]?).getD [] ++ [93]
 else if x.kind = 3 then zc3 ++ ((x.args.l.map zcu)[0]?).getD [] ++ [93]
 else zji ++ nth zde x.func ++ 123 :: zfc (x.items.l.map zgs) zl9 ++ zlJ ++ nth zc5 (x.op - 5) ++ 32 :: zdD x.bound ++ [93] := by
 rcases x with ⟨k, r, ⟨f1, as⟩, fn, ⟨f2, is⟩, op, b⟩
 simp only [zfK, ziR, zij, zas.kind, zas.row, zas.args, zas.func, zas.items, zas.op, zas.bound]
 first | done | rfl
theorem zzE (k : Int) (r : zbZ) (f1 : Fl) (as : List (Sl zam)) (fn : Int) (f2 : Fl) (is : List zae) (op : Int) (b : Val) : zfK (.mk k r ⟨f1, as⟩ fn ⟨f2, is⟩ op b) = if k = 0 then zj5 r
 else if k = 1 then zfa ++ (((as.map zcu)[0]?).getD [] ++ zrn ++ ((as.map zcu)[1]?).getD []) ++ [93]
 else if k = 2 then zfb ++ ((as.map zcu)[0]?).getD [] ++ [93]
 else if k = 3 then zc3 ++ ((as.map zcu)[0]?).getD [] ++ [93]
 else zji ++ nth zde fn ++ 123 :: zfc (is.map zgs) zl9 ++ zlJ ++ nth zc5 (op - 5) ++ 32 :: zdD b ++ [93] := by
 simp only [zfK, ziR, zij]
 first | done | rfl
theorem zC7 (a : Sl zam) : zcu a = if a.l.isEmpty then [48] else zfc (a.l.map zgr) zma := by
 unfold zcu txA; rw [zuw]; cases a.l.isEmpty <;> rfl
def zaQ (p s : Str) : Bool × Str := if p.isPrefixOf s then (true, s.drop p.length) else (false, s)
def zvB (set s : Str) : Str × Str := (s.takeWhile fun b => set.contains b, s.dropWhile fun b => set.contains b)
def zcE : Str := [48, 49, 50, 51, 52, 53, 54, 55, 56, 57]
def zJM : Str := 45 :: (zcE ++ (zJL ++ zCm))
def zIL : Str := 116 :: 46 :: zcE
def zj2 (s : Str) : Int × Bool := match Lib.atoiAll s with
 | .ok v => (v, true)
 | .range => (Lib.atoiSat s, false)
 | _ => (0, false)
def zhy (s : Str) : Int × Bool × Str := ((zj2 (zvB zcE s).1).1, (zj2 (zvB zcE s).1).2, (zvB zcE s).2)
def zim (s : Str) : Int × Int :=
 if s = [] then (0, 3) else if (s.head? == some 48) || s.any (fun b => !(zcE.contains b)) then (0, 3)
 else match Lib.atoiAll s with
  | .ok v => (v, 0)
  | _ => (0, 2)
def zlP (s : Str) : Str × Str × Bool :=
 (s.takeWhile fun b => b != 46, (s.dropWhile fun b => b != 46).drop 1, s.contains 46)
def ziT (s : Str) : zbZ × Int :=
 if (zaQ [116] s).1 && (zlP (zaQ [116] s).2).2.2 then
  (if (zim (zlP (zaQ [116] s).2).1).2 = 3 ∨ (zim (zlP (zaQ [116] s).2).2.1).2 = 3 then (⟨0, 0⟩, 3)
   else if (zim (zlP (zaQ [116] s).2).1).2 = 0 /\ (zim (zlP (zaQ [116] s).2).2.1).2 = 0 then (⟨(zim (zlP (zaQ [116] s).2).1).1, (zim (zlP (zaQ [116] s).2).2.1).1⟩, 0)
   else (⟨0, 0⟩, 2))
 else (⟨0, 0⟩, 3)
def zm6 : Str -> Str
 | [] => []
 | [b] => [b]
 | b :: c :: s => if b = 39 /\ c = 39 then 39 :: zm6 s else b :: zm6 (c :: s)
def zxu : Str -> Bool
 | [] => true
 | [b] => b != 39
 | b :: c :: s => if b = 39 /\ c = 39 then zxu s else b != 39 && zxu (c :: s)
def ziQ (s : Str) : Option Str :=
 match s with
 | [] => none
 | b :: t => if b = 39 /\ t ≠ [] /\ t.getLast? = some 39 /\ zxu t.dropLast = true then some (zm6 t.dropLast) else none
def zyp (s : Str) : Bool :=
 !((zaQ [45] s).2.isEmpty) && !((zaQ [45] s).2.head? == some 48 && s != [48]) && (zaQ [45] s).2.all fun b => zcE.contains b
def zfn (s : Str) : Val × Int :=
 if s = zJL then (⟨2, 1, []⟩, 0) else if s = zCm then (⟨2, 0, []⟩, 0)
 else match ziQ s with
  | some t => if 255 < t.length then (⟨0, 0, []⟩, 6) else (⟨1, 0, t⟩, 0)
  | none => if zyp s then (if (zj2 s).2 then (⟨0, (zj2 s).1, []⟩, 0) else (⟨0, 0, []⟩, 2)) else (⟨0, 0, []⟩, 3)
def zCq : Str -> Option Nat
 | [] => none
 | [b] => if b = 39 then some 0 else none
 | b :: c :: s => if b = 39 then (if c = 39 then (zCq s).map (· + 2) else some 0) else (zCq (c :: s)).map (· + 1)
def zfq (s : Str) : Val × Bool × Str :=
 if s.head? = some 39 then match zCq (s.drop 1) with
  | none => (⟨0, 0, []⟩, false, s)
  | some n => ((zfn (s.take (n + 2))).1, (zfn (s.take (n + 2))).2 == 0, s.drop (n + 2))
 else ((zfn (zvB zJM s).1).1, (zfn (zvB zJM s).1).2 == 0, (zvB zJM s).2)
def zcj (z : UInt8) : List Str -> Int -> Str -> Int × Str
 | [], _, s => (-1, s)
 | w :: l, i, s => if (zaQ (w ++ [z]) s).1 then (i, (zaQ (w ++ [z]) s).2) else zcj z l (i + 1) s
abbrev zow := Str -> Sl zam × Bool × Str
def ziq (s : Str) : Int × Str :=
 if (zaQ zfa s).1 then (1, (zaQ zfa s).2) else if (zaQ zfb s).1 then (2, (zaQ zfb s).2)
 else if (zaQ zc3 s).1 then (3, (zaQ zc3 s).2) else if (zaQ zji s).1 then (4, (zaQ zji s).2) else (0, s)
def zkf (ann : zow) : Nat -> List zae -> Str -> List zae × Bool × Str
 | 0, acc, s => (acc, false, s)
 | k + 1, acc, s =>
   match zfq s with
   | (v, ok, s1) => if ok then match zaQ zro s1 with
     | (c, s2) => if c then match ann s2 with
       | (a, is, s3) => if is then match zaQ zl9 s3 with
         | (c, s4) => if c then zkf ann k (acc ++ [.mk v a]) s4 else (acc ++ [.mk v a], true, s4)
         else (acc, false, s3)
       else (acc, false, s2)
     else (acc, false, s1)
def zty (ann : zow) (s : Str) : zas × Bool × Str :=
 match zcj 123 zde 0 s with
 | (fn, s1) => if fn < 0 then (.mk 4 ⟨0, 0⟩ Sl.nil fn Sl.nil 0 ⟨0, 0, []⟩, false, s1) else match zkf ann (s1.length + 1) [] s1 with
   | (its, ok, s2) => if ok then match zaQ zlJ s2 with
     | (c, s3) => if c then match zcj 32 zc5 0 s3 with
       | (i, s4) => match zfq s4 with
         | (v, ok, s5) => (.mk 4 ⟨0, 0⟩ Sl.nil fn (Sl.out its) (5 + i) v, decide (0 <= i) && ok, s5)
       else (.mk 4 ⟨0, 0⟩ Sl.nil fn (Sl.out its) 0 ⟨0, 0, []⟩, false, s3)
     else (.mk 4 ⟨0, 0⟩ Sl.nil fn (Sl.out its) 0 ⟨0, 0, []⟩, false, s2)
def zks (k : Int) (l : List (Sl zam)) : zas := .mk k ⟨0, 0⟩ (Sl.out l) 0 Sl.nil 0 ⟨0, 0, []⟩
def zrA (ann : zow) (s : Str) : zas × Bool × Str :=
 match ziq s with
 | (k, s0) =>
   if k = 0 then (.mk 0 (ziT (zvB zIL s0).1).1 Sl.nil 0 Sl.nil 0 ⟨0, 0, []⟩, (ziT (zvB zIL s0).1).2 == 0, (zvB zIL s0).2)
   else if k = 4 then match zty ann s0 with
    | (x, ok, s1) => if ok then (x, (zaQ [93] s1).1, (zaQ [93] s1).2) else (x, false, s1)
   else match ann s0 with
    | (a, ok, s1) => if ok then
     (if k = 1 then match zaQ zrn s1 with
      | (c, s2) => if c then match ann s2 with
        | (b, ok2, s3) => if ok2 then (zks k [a, b], (zaQ [93] s3).1, (zaQ [93] s3).2) else (zks k [a, b], false, s3)
        else (zks k [a], false, s2)
     else (zks k [a], (zaQ [93] s1).1, (zaQ [93] s1).2))
     else (zks k [a], false, s1)
def zoP (ann : zow) (s : Str) : zaj × Bool × Str :=
 match zrA ann s with
 | (x, ok, s1) => if ok then match zaQ [94] s1 with
  | (c, s2) => if c then (.mk x (zhy s2).1, (zhy s2).2.1, (zhy s2).2.2) else (.mk x 1, true, s2)
  else (.mk x 1, false, s1)
def zic (ann : zow) : Nat -> List zaj -> Str -> List zaj × Bool × Str
 | 0, acc, s => (acc, false, s)
 | k + 1, acc, s =>
   match zoP ann s with
   | (f, ok, s1) => if ok then match zaQ [42] s1 with
    | (c, s2) => if c then zic ann k (acc ++ [f]) s2 else (acc ++ [f], true, s2)
    else (acc, false, s1)
def zno (s : Str) : Bool := match s with
 | [] => false
 | b :: _ => decide (48 <= b.toNat) && decide (b.toNat <= 57)
def zyj (ann : zow) (c : Int) (s : Str) : zam × Bool × Str :=
 match zic ann (s.length + 1) [] s with
 | (fs, ok, s1) => (.mk c (Sl.out fs), ok, s1)
def zvH (ann : zow) (s : Str) : zam × Bool × Str :=
 if zno s then match zhy s with
  | (n, ok, s1) => if ok then match zaQ [42] s1 with
   | (c, s2) => if c then zyj ann n s2 else (.mk n Sl.nil, true, s2)
   else (.mk n Sl.nil, false, s1)
 else zyj ann 1 s
def znd (ann : zow) : Nat -> List zam -> Str -> Sl zam × Bool × Str
 | 0, _, s => (Sl.nil, false, s)
 | k + 1, acc, s =>
   match zvH ann s with
   | (t, ok, s1) => if ok then match zaQ zma s1 with
    | (c, s2) => if c then znd ann k (acc ++ [t]) s2 else (Sl.out (acc ++ [t]), true, s2)
    else (Sl.nil, false, s1)
def zng : Nat -> zow
 | 0, s => (Sl.nil, false, s)
 | d + 1, s => match zaQ [48] s with
   | (c, s1) => if c then (Sl.nil, true, s1) else znd (zng d) (s1.length + 1) [] s1
def zib (s : Str) : Sl zam × Int :=
 match zng 9 s with
 | (a, ok, r) => if ok && r.isEmpty && zb2 a && zcu a == s then (a, 0) else (Sl.nil, 3)
end Go.Ev
