/- Part of a proof. -/
import Derived.Lib.AtoiAll
import Derived.Test.YtaadpbhondmahaaGreatDoorT4
import Derived.Test.YtaadpbhondmahaaGreatDoorT5
set_option linter.all false
namespace Go.Ev
def zE2 : Str → Str
 | [] => []
 | b :: s => if b = 39 then 39 :: 39 :: zE2 s else b :: zE2 s
def zFD (s : Str) : Str := 39 :: (zE2 s ++ [39])
def zB4 : Str := [84, 82, 85, 69]
def zwL : Str := [70, 65, 76, 83, 69]
def zjD (v : Val) : Str :=
 if zbb v then (if v.kind = 0 then zhT v.int else if v.kind = 1 then zFD v.text else if v.int = 1 then zB4 else zwL) else []
def zqt (r : zcc) : Str := if zhr r then 116 :: (zhT r.table ++ 46 :: zhT r.seq) else []
def zgK : List Str := [[67, 79, 85, 78, 84], [83, 85, 77], [77, 73, 78], [77, 65, 88]]
def zgt : List Str := [[61], [60, 62], [60], [60, 61], [62], [62, 61]]
def nth (l : List Str) (n : Int) : Str := (l[n.toNat]?).getD []
def zfE : Str := [109, 111, 110, 117, 115, 91]
def zfP : Str := [100, 101, 108, 116, 97, 91]
def zd5 : Str := [97, 98, 115, 101, 110, 116, 91]
def zjS : Str := [116, 101, 115, 116, 91]
def zsd : Str := [32, 43, 32]
def zpg : Str := [44, 32]
def zpu : Str := [59, 32]
def zqa : Str := [58, 32]
def znN : Str := [125, 32]
def txA (l : List Str) (nonempty : Bool) : Str := if nonempty then zjV l zsd else [48]
mutual
def zng : zam → Str
 | .mk c ⟨_, fs⟩ => if fs.isEmpty then zhT c else if c = 1 then zjV (zi4 fs) [42] else zhT c ++ 42 :: zjV (zi4 fs) [42]
def zi4 : List zaj → List Str
 | [] => []
 | x :: xs => zdr x :: zi4 xs
def zdr : zaj → Str
 | .mk a e => if e = 1 then zjB a else zjB a ++ 94 :: zhT e
def zjB : zap → Str
 | .mk k r ⟨_, as⟩ f ⟨_, is⟩ o b =>
   if k = 0 then zqt r
   else if k = 1 then zfE ++ (((zpe as)[0]?).getD [] ++ zpg ++ ((zpe as)[1]?).getD []) ++ [93]
   else if k = 2 then zfP ++ ((zpe as)[0]?).getD [] ++ [93]
   else if k = 3 then zd5 ++ ((zpe as)[0]?).getD [] ++ [93]
   else zjS ++ nth zgK f ++ 123 :: zjV (zps is) zpu ++ znN ++ nth zgt (o - 5) ++ 32 :: zjD b ++ [93]
def zpe : List (Sl zam) → List Str
 | [] => []
 | ⟨_, x⟩ :: xs => txA (zml x) (!x.isEmpty) :: zpe xs
def zml : List zam → List Str
 | [] => []
 | x :: xs => zng x :: zml xs
def zps : List zaf → List Str
 | [] => []
 | x :: xs => zi3 x :: zps xs
def zi3 : zaf → Str
 | .mk v ⟨_, l⟩ => zjD v ++ zqa ++ txA (zml l) (!l.isEmpty)
end
def zeS (a : Sl zam) : Str := txA (zml a.l) (!a.l.isEmpty)
theorem zhV (l : List zaj) : zi4 l = l.map zdr := by
 induction l with
 | nil => rfl
 | cons x l ih => simp only [zi4, List.map_cons, ih]
theorem zsT (l : List zam) : zml l = l.map zng := by
 induction l with
 | nil => rfl
 | cons x l ih => simp only [zml, List.map_cons, ih]
theorem zmm (l : List zaf) : zps l = l.map zi3 := by
 induction l with
 | nil => rfl
 | cons x l ih => simp only [zps, List.map_cons, ih]
theorem zq1 (l : List (Sl zam)) : zpe l = l.map zeS := by
 induction l with
 | nil => rfl
 | cons x l ih => cases x; simp only [zpe, List.map_cons, ih, zeS]
theorem zBO (x : zam) : zng x = if x.factors.l.isEmpty then zhT x.coeff else if x.coeff = 1 then zjV (x.factors.l.map zdr) [42] else zhT x.coeff ++ 42 :: zjV (x.factors.l.map zdr) [42] := by
 rcases x with ⟨c, ⟨f, l⟩⟩; simp only [zng, zam.coeff, zam.factors, zhV]; first | done | rfl
theorem zx9 (x : zaj) : zdr x = if x.exp = 1 then zjB x.atom else zjB x.atom ++ 94 :: zhT x.exp := by cases x; simp only [zdr, zaj.atom, zaj.exp]; first | done | rfl
theorem zBP (x : zaf) : zi3 x = zjD x.value ++ zqa ++ zeS x.ann := by rcases x with ⟨v, ⟨f, l⟩⟩; simp only [zi3, zaf.ann, zaf.value, zeS]
theorem zBR (x : zap) : zjB x = if x.kind = 0 then zqt x.row
 else if x.kind = 1 then zfE ++ (((x.args.l.map zeS)[0]?).getD [] ++ zpg ++ ((x.args.l.map zeS)[1]?).getD []) ++ [93]
 else if x.kind = 2 then zfP ++ ((x.args.l.map zeS)[0]?).getD [] ++ [93]
 else if x.kind = 3 then zd5 ++ ((x.args.l.map zeS)[0]?).getD [] ++ [93]
 else zjS ++ nth zgK x.func ++ 123 :: zjV (x.items.l.map zi3) zpu ++ znN ++ nth zgt (x.op - 5) ++ 32 :: zjD x.bound ++ [93] := by
 rcases x with ⟨k, r, ⟨f1, as⟩, fn, ⟨f2, is⟩, op, b⟩
 simp only [zjB, zq1, zmm, zap.kind, zap.row, zap.args, zap.func, zap.items, zap.op, zap.bound]
 first | done | rfl
theorem zBQ (k : Int) (r : zcc) (f1 : Fl) (as : List (Sl zam)) (fn : Int) (f2 : Fl) (is : List zaf) (op : Int) (b : Val) : zjB (.mk k r ⟨f1, as⟩ fn ⟨f2, is⟩ op b) = if k = 0 then zqt r
 else if k = 1 then zfE ++ (((as.map zeS)[0]?).getD [] ++ zpg ++ ((as.map zeS)[1]?).getD []) ++ [93]
 else if k = 2 then zfP ++ ((as.map zeS)[0]?).getD [] ++ [93]
 else if k = 3 then zd5 ++ ((as.map zeS)[0]?).getD [] ++ [93]
 else zjS ++ nth zgK fn ++ 123 :: zjV (is.map zi3) zpu ++ znN ++ nth zgt (op - 5) ++ 32 :: zjD b ++ [93] := by
 simp only [zjB, zq1, zmm]
 first | done | rfl
theorem zEd (a : Sl zam) : zeS a = if a.l.isEmpty then [48] else zjV (a.l.map zng) zsd := by
 unfold zeS txA; rw [zsT]; cases a.l.isEmpty <;> rfl
def za3 (p s : Str) : Bool × Str := if p.isPrefixOf s then (true, s.drop p.length) else (false, s)
def zq6 (set s : Str) : Str × Str := (s.takeWhile fun b => set.contains b, s.dropWhile fun b => set.contains b)
def zcs : Str := [48, 49, 50, 51, 52, 53, 54, 55, 56, 57]
def zEs : Str := 45 :: (zcs ++ (zB4 ++ zwL))
def zGp : Str := 116 :: 46 :: zcs
def ziu (s : Str) : Int × Bool := match Lib.atoiAll s with
 | .ok v => (v, true)
 | .range => (Lib.atoiSat s, false)
 | _ => (0, false)
def zgH (s : Str) : Int × Bool × Str := ((ziu (zq6 zcs s).1).1, (ziu (zq6 zcs s).1).2, (zq6 zcs s).2)
def zhu (s : Str) : Int × Int :=
 if s = [] then (0, 3) else if (s.head? == some 48) || s.any (fun b => !(zcs.contains b)) then (0, 3)
 else match Lib.atoiAll s with
  | .ok v => (v, 0)
  | _ => (0, 2)
def zks (s : Str) : Str × Str × Bool :=
 (s.takeWhile fun b => b != 46, (s.dropWhile fun b => b != 46).drop 1, s.contains 46)
def zhZ (s : Str) : zcc × Int :=
 if (za3 [116] s).1 && (zks (za3 [116] s).2).2.2 then
  (if (zhu (zks (za3 [116] s).2).1).2 = 3 ∨ (zhu (zks (za3 [116] s).2).2.1).2 = 3 then (⟨0, 0⟩, 3)
   else if (zhu (zks (za3 [116] s).2).1).2 = 0 ∧ (zhu (zks (za3 [116] s).2).2.1).2 = 0 then (⟨(zhu (zks (za3 [116] s).2).1).1, (zhu (zks (za3 [116] s).2).2.1).1⟩, 0)
   else (⟨0, 0⟩, 2))
 else (⟨0, 0⟩, 3)
def znf : Str → Str
 | [] => []
 | [b] => [b]
 | b :: c :: s => if b = 39 ∧ c = 39 then 39 :: znf s else b :: znf (c :: s)
def zvV : Str → Bool
 | [] => true
 | [b] => b != 39
 | b :: c :: s => if b = 39 ∧ c = 39 then zvV s else b != 39 && zvV (c :: s)
def zjM (s : Str) : Option Str :=
 match s with
 | [] => none
 | b :: t => if b = 39 ∧ t ≠ [] ∧ t.getLast? = some 39 ∧ zvV t.dropLast = true then some (znf t.dropLast) else none
def zuU (s : Str) : Bool :=
 !((za3 [45] s).2.isEmpty) && !((za3 [45] s).2.head? == some 48 && s != [48]) && (za3 [45] s).2.all fun b => zcs.contains b
def zfo (s : Str) : Val × Int :=
 if s = zB4 then (⟨2, 1, []⟩, 0) else if s = zwL then (⟨2, 0, []⟩, 0)
 else match zjM s with
  | some t => if 255 < t.length then (⟨0, 0, []⟩, 6) else (⟨1, 0, t⟩, 0)
  | none => if zuU s then (if (ziu s).2 then (⟨0, (ziu s).1, []⟩, 0) else (⟨0, 0, []⟩, 2)) else (⟨0, 0, []⟩, 3)
def zAx : Str → Option Nat
 | [] => none
 | [b] => if b = 39 then some 0 else none
 | b :: c :: s => if b = 39 then (if c = 39 then (zAx s).map (· + 2) else some 0) else (zAx (c :: s)).map (· + 1)
def zfX (s : Str) : Val × Bool × Str :=
 if s.head? = some 39 then match zAx (s.drop 1) with
  | none => (⟨0, 0, []⟩, false, s)
  | some n => ((zfo (s.take (n + 2))).1, (zfo (s.take (n + 2))).2 == 0, s.drop (n + 2))
 else ((zfo (zq6 zEs s).1).1, (zfo (zq6 zEs s).1).2 == 0, (zq6 zEs s).2)
def zcZ (z : UInt8) : List Str → Int → Str → Int × Str
 | [], _, s => (-1, s)
 | w :: l, i, s => if (za3 (w ++ [z]) s).1 then (i, (za3 (w ++ [z]) s).2) else zcZ z l (i + 1) s
abbrev zsb := Str → Sl zam × Bool × Str
def zjr (s : Str) : Int × Str :=
 if (za3 zfE s).1 then (1, (za3 zfE s).2) else if (za3 zfP s).1 then (2, (za3 zfP s).2)
 else if (za3 zd5 s).1 then (3, (za3 zd5 s).2) else if (za3 zjS s).1 then (4, (za3 zjS s).2) else (0, s)
def zjC (ann : zsb) : Nat → List zaf → Str → List zaf × Bool × Str
 | 0, acc, s => (acc, false, s)
 | k + 1, acc, s =>
   match zfX s with
   | (v, ok, s1) => if ok then match za3 zqa s1 with
     | (c, s2) => if c then match ann s2 with
       | (a, is, s3) => if is then match za3 zpu s3 with
         | (c, s4) => if c then zjC ann k (acc ++ [.mk v a]) s4 else (acc ++ [.mk v a], true, s4)
         else (acc, false, s3)
       else (acc, false, s2)
     else (acc, false, s1)
def zpx (ann : zsb) (s : Str) : zap × Bool × Str :=
 match zcZ 123 zgK 0 s with
 | (fn, s1) => if fn < 0 then (.mk 4 ⟨0, 0⟩ Sl.nil fn Sl.nil 0 ⟨0, 0, []⟩, false, s1) else match zjC ann (s1.length + 1) [] s1 with
   | (its, ok, s2) => if ok then match za3 znN s2 with
     | (c, s3) => if c then match zcZ 32 zgt 0 s3 with
       | (i, s4) => match zfX s4 with
         | (v, ok, s5) => (.mk 4 ⟨0, 0⟩ Sl.nil fn (Sl.out its) (5 + i) v, decide (0 ≤ i) && ok, s5)
       else (.mk 4 ⟨0, 0⟩ Sl.nil fn (Sl.out its) 0 ⟨0, 0, []⟩, false, s3)
     else (.mk 4 ⟨0, 0⟩ Sl.nil fn (Sl.out its) 0 ⟨0, 0, []⟩, false, s2)
def zib (k : Int) (l : List (Sl zam)) : zap := .mk k ⟨0, 0⟩ (Sl.out l) 0 Sl.nil 0 ⟨0, 0, []⟩
def zsg (ann : zsb) (s : Str) : zap × Bool × Str :=
 match zjr s with
 | (k, s0) =>
   if k = 0 then (.mk 0 (zhZ (zq6 zGp s0).1).1 Sl.nil 0 Sl.nil 0 ⟨0, 0, []⟩, (zhZ (zq6 zGp s0).1).2 == 0, (zq6 zGp s0).2)
   else if k = 4 then match zpx ann s0 with
    | (x, ok, s1) => if ok then (x, (za3 [93] s1).1, (za3 [93] s1).2) else (x, false, s1)
   else match ann s0 with
    | (a, ok, s1) => if ok then
     (if k = 1 then match za3 zpg s1 with
      | (c, s2) => if c then match ann s2 with
        | (b, ok2, s3) => if ok2 then (zib k [a, b], (za3 [93] s3).1, (za3 [93] s3).2) else (zib k [a, b], false, s3)
        else (zib k [a], false, s2)
     else (zib k [a], (za3 [93] s1).1, (za3 [93] s1).2))
     else (zib k [a], false, s1)
def znR (ann : zsb) (s : Str) : zaj × Bool × Str :=
 match zsg ann s with
 | (x, ok, s1) => if ok then match za3 [94] s1 with
  | (c, s2) => if c then (.mk x (zgH s2).1, (zgH s2).2.1, (zgH s2).2.2) else (.mk x 1, true, s2)
  else (.mk x 1, false, s1)
def zh1 (ann : zsb) : Nat → List zaj → Str → List zaj × Bool × Str
 | 0, acc, s => (acc, false, s)
 | k + 1, acc, s =>
   match znR ann s with
   | (f, ok, s1) => if ok then match za3 [42] s1 with
    | (c, s2) => if c then zh1 ann k (acc ++ [f]) s2 else (acc ++ [f], true, s2)
    else (acc, false, s1)
def zn4 (s : Str) : Bool := match s with
 | [] => false
 | b :: _ => decide (48 ≤ b.toNat) && decide (b.toNat ≤ 57)
def zuP (ann : zsb) (c : Int) (s : Str) : zam × Bool × Str :=
 match zh1 ann (s.length + 1) [] s with
 | (fs, ok, s1) => (.mk c (Sl.out fs), ok, s1)
def zsf (ann : zsb) (s : Str) : zam × Bool × Str :=
 if zn4 s then match zgH s with
  | (n, ok, s1) => if ok then match za3 [42] s1 with
   | (c, s2) => if c then zuP ann n s2 else (.mk n Sl.nil, true, s2)
   else (.mk n Sl.nil, false, s1)
 else zuP ann 1 s
def zpi (ann : zsb) : Nat → List zam → Str → Sl zam × Bool × Str
 | 0, _, s => (Sl.nil, false, s)
 | k + 1, acc, s =>
   match zsf ann s with
   | (t, ok, s1) => if ok then match za3 zsd s1 with
    | (c, s2) => if c then zpi ann k (acc ++ [t]) s2 else (Sl.out (acc ++ [t]), true, s2)
    else (Sl.nil, false, s1)
def zl0 : Nat → zsb
 | 0, s => (Sl.nil, false, s)
 | d + 1, s => match za3 [48] s with
   | (c, s1) => if c then (Sl.nil, true, s1) else zpi (zl0 d) (s1.length + 1) [] s1
def zfV (s : Str) : Sl zam × Int :=
 match zl0 9 s with
 | (a, ok, r) => if ok && r.isEmpty && zdD a && zeS a == s then (a, 0) else (Sl.nil, 3)
end Go.Ev
