/- AnnotationText: for every annotation and string that hold together at most 1048576 values and letters, the law returns true. Condition: that bound (the Upto form). -/
import Derived.Lib.AtoiAll
import Derived.Test.YtppkbmfdaojgdaaGreatDoorT4
import Derived.Test.YtppkbmfdaojgdaaGreatDoorT5
set_option linter.all false
namespace Go.Ev
def zsZ : Str → Str
 | [] => []
 | b :: s => if b = 39 then 39 :: 39 :: zsZ s else b :: zsZ s
def zsC (s : Str) : Str := 39 :: (zsZ s ++ [39])
def zGZ : Str := [84, 82, 85, 69]
def zzR : Str := [70, 65, 76, 83, 69]
def zdy (v : Val) : Str :=
 if zbS v then (if v.kind = 0 then zb7 v.int else if v.kind = 1 then zsC v.text else if v.int = 1 then zGZ else zzR) else []
def zjc (r : zbw) : Str := if zdV r then 116 :: (zb7 r.table ++ 46 :: zb7 r.seq) else []
def zc9 : List Str := [[67, 79, 85, 78, 84], [83, 85, 77], [77, 73, 78], [77, 65, 88]]
def zc1 : List Str := [[61], [60, 62], [60], [60, 61], [62], [62, 61]]
def nth (l : List Str) (n : Int) : Str := (l[n.toNat]?).getD []
def zeY : Str := [109, 111, 110, 117, 115, 91]
def zeZ : Str := [100, 101, 108, 116, 97, 91]
def zcZ : Str := [97, 98, 115, 101, 110, 116, 91]
def ziz : Str := [116, 101, 115, 116, 91]
def zk0 : Str := [32, 43, 32]
def zp2 : Str := [44, 32]
def zkZ : Str := [59, 32]
def zp3 : Str := [58, 32]
def zkE : Str := [125, 32]
def txA (l : List Str) (nonempty : Bool) : Str := if nonempty then ze0 l zk0 else [48]
mutual
def zf7 : zal → Str
 | .mk c ⟨_, fs⟩ => if fs.isEmpty then zb7 c else if c = 1 then ze0 (zhI fs) [42] else zb7 c ++ 42 :: ze0 (zhI fs) [42]
def zhI : List zai → List Str
 | [] => []
 | x :: xs => zbI x :: zhI xs
def zbI : zai → Str
 | .mk a e => if e = 1 then zfs a else zfs a ++ 94 :: zb7 e
def zfs : zan → Str
 | .mk k r ⟨_, as⟩ f ⟨_, is⟩ o b =>
   if k = 0 then zjc r
   else if k = 1 then zeY ++ (((zp1 as)[0]?).getD [] ++ zp2 ++ ((zp1 as)[1]?).getD []) ++ [93]
   else if k = 2 then zeZ ++ ((zp1 as)[0]?).getD [] ++ [93]
   else if k = 3 then zcZ ++ ((zp1 as)[0]?).getD [] ++ [93]
   else ziz ++ nth zc9 f ++ 123 :: ze0 (zns is) zkZ ++ zkE ++ nth zc1 (o - 5) ++ 32 :: zdy b ++ [93]
def zp1 : List (Sl zal) → List Str
 | [] => []
 | ⟨_, x⟩ :: xs => txA (zkY x) (!x.isEmpty) :: zp1 xs
def zkY : List zal → List Str
 | [] => []
 | x :: xs => zf7 x :: zkY xs
def zns : List zad → List Str
 | [] => []
 | x :: xs => zf8 x :: zns xs
def zf8 : zad → Str
 | .mk v ⟨_, l⟩ => zdy v ++ zp3 ++ txA (zkY l) (!l.isEmpty)
end
def zcp (a : Sl zal) : Str := txA (zkY a.l) (!a.l.isEmpty)
theorem zf9 (l : List zai) : zhI l = l.map zbI := by
 induction l with
 | nil => rfl
 | cons x l ih => simp only [zhI, List.map_cons, ih]
theorem zsO (l : List zal) : zkY l = l.map zf7 := by
 induction l with
 | nil => rfl
 | cons x l ih => simp only [zkY, List.map_cons, ih]
theorem zhH (l : List zad) : zns l = l.map zf8 := by
 induction l with
 | nil => rfl
 | cons x l ih => simp only [zns, List.map_cons, ih]
theorem zib (l : List (Sl zal)) : zp1 l = l.map zcp := by
 induction l with
 | nil => rfl
 | cons x l ih => cases x; simp only [zp1, List.map_cons, ih, zcp]
theorem zn3 (x : zal) : zf7 x = if x.factors.l.isEmpty then zb7 x.coeff else if x.coeff = 1 then ze0 (x.factors.l.map zbI) [42] else zb7 x.coeff ++ 42 :: ze0 (x.factors.l.map zbI) [42] := by
 rcases x with ⟨c, ⟨f, l⟩⟩; simp only [zf7, zal.coeff, zal.factors, zf9]; first | done | rfl
theorem zkb (x : zai) : zbI x = if x.exp = 1 then zfs x.atom else zfs x.atom ++ 94 :: zb7 x.exp := by cases x; simp only [zbI, zai.atom, zai.exp]; first | done | rfl
theorem zlW (x : zad) : zf8 x = zdy x.value ++ zp3 ++ zcp x.ann := by rcases x with ⟨v, ⟨f, l⟩⟩; simp only [zf8, zad.ann, zad.value, zcp]
theorem zts (x : zan) : zfs x = if x.kind = 0 then zjc x.row
 else if x.kind = 1 then zeY ++ (((x.args.l.map zcp)[0]?).getD [] ++ zp2 ++ ((x.args.l.map zcp)[1]?).getD []) ++ [93]
 else if x.kind = 2 then zeZ ++ ((x.args.l.map zcp)[0]?).getD [] ++ [93]
 else if x.kind = 3 then zcZ ++ ((x.args.l.map zcp)[0]?).getD [] ++ [93]
 else ziz ++ nth zc9 x.func ++ 123 :: ze0 (x.items.l.map zf8) zkZ ++ zkE ++ nth zc1 (x.op - 5) ++ 32 :: zdy x.bound ++ [93] := by
 rcases x with ⟨k, r, ⟨f1, as⟩, fn, ⟨f2, is⟩, op, b⟩
 simp only [zfs, zib, zhH, zan.kind, zan.row, zan.args, zan.func, zan.items, zan.op, zan.bound]
 first | done | rfl
theorem zxi (k : Int) (r : zbw) (f1 : Fl) (as : List (Sl zal)) (fn : Int) (f2 : Fl) (is : List zad) (op : Int) (b : Val) : zfs (.mk k r ⟨f1, as⟩ fn ⟨f2, is⟩ op b) = if k = 0 then zjc r
 else if k = 1 then zeY ++ (((as.map zcp)[0]?).getD [] ++ zp2 ++ ((as.map zcp)[1]?).getD []) ++ [93]
 else if k = 2 then zeZ ++ ((as.map zcp)[0]?).getD [] ++ [93]
 else if k = 3 then zcZ ++ ((as.map zcp)[0]?).getD [] ++ [93]
 else ziz ++ nth zc9 fn ++ 123 :: ze0 (is.map zf8) zkZ ++ zkE ++ nth zc1 (op - 5) ++ 32 :: zdy b ++ [93] := by
 simp only [zfs, zib, zhH]
 first | done | rfl
theorem zAz (a : Sl zal) : zcp a = if a.l.isEmpty then [48] else ze0 (a.l.map zf7) zk0 := by
 unfold zcp txA; rw [zsO]; cases a.l.isEmpty <;> rfl
def zaP (p s : Str) : Bool × Str := if p.isPrefixOf s then (true, s.drop p.length) else (false, s)
def ztH (set s : Str) : Str × Str := (s.takeWhile fun b => set.contains b, s.dropWhile fun b => set.contains b)
def zcD : Str := [48, 49, 50, 51, 52, 53, 54, 55, 56, 57]
def zG0 : Str := 45 :: (zcD ++ (zGZ ++ zzR))
def zFU : Str := 116 :: 46 :: zcD
def zi8 (s : Str) : Int × Bool := match Lib.atoiAll s with
 | .ok v => (v, true)
 | .range => (Lib.atoiSat s, false)
 | _ => (0, false)
def zg5 (s : Str) : Int × Bool × Str := ((zi8 (ztH zcD s).1).1, (zi8 (ztH zcD s).1).2, (ztH zcD s).2)
def zhK (s : Str) : Int × Int :=
 if s = [] then (0, 3) else if (s.head? == some 48) || s.any (fun b => !(zcD.contains b)) then (0, 3)
 else match Lib.atoiAll s with
  | .ok v => (v, 0)
  | _ => (0, 2)
def zkJ (s : Str) : Str × Str × Bool :=
 (s.takeWhile fun b => b != 46, (s.dropWhile fun b => b != 46).drop 1, s.contains 46)
def zic (s : Str) : zbw × Int :=
 if (zaP [116] s).1 && (zkJ (zaP [116] s).2).2.2 then
  (if (zhK (zkJ (zaP [116] s).2).1).2 = 3 ∨ (zhK (zkJ (zaP [116] s).2).2.1).2 = 3 then (⟨0, 0⟩, 3)
   else if (zhK (zkJ (zaP [116] s).2).1).2 = 0 ∧ (zhK (zkJ (zaP [116] s).2).2.1).2 = 0 then (⟨(zhK (zkJ (zaP [116] s).2).1).1, (zhK (zkJ (zaP [116] s).2).2.1).1⟩, 0)
   else (⟨0, 0⟩, 2))
 else (⟨0, 0⟩, 3)
def zlV : Str → Str
 | [] => []
 | [b] => [b]
 | b :: c :: s => if b = 39 ∧ c = 39 then 39 :: zlV s else b :: zlV (c :: s)
def zvo : Str → Bool
 | [] => true
 | [b] => b != 39
 | b :: c :: s => if b = 39 ∧ c = 39 then zvo s else b != 39 && zvo (c :: s)
def zia (s : Str) : Option Str :=
 match s with
 | [] => none
 | b :: t => if b = 39 ∧ t ≠ [] ∧ t.getLast? = some 39 ∧ zvo t.dropLast = true then some (zlV t.dropLast) else none
def zwe (s : Str) : Bool :=
 !((zaP [45] s).2.isEmpty) && !((zaP [45] s).2.head? == some 48 && s != [48]) && (zaP [45] s).2.all fun b => zcD.contains b
def ze8 (s : Str) : Val × Int :=
 if s = zGZ then (⟨2, 1, []⟩, 0) else if s = zzR then (⟨2, 0, []⟩, 0)
 else match zia s with
  | some t => if 255 < t.length then (⟨0, 0, []⟩, 6) else (⟨1, 0, t⟩, 0)
  | none => if zwe s then (if (zi8 s).2 then (⟨0, (zi8 s).1, []⟩, 0) else (⟨0, 0, []⟩, 2)) else (⟨0, 0, []⟩, 3)
def zzW : Str → Option Nat
 | [] => none
 | [b] => if b = 39 then some 0 else none
 | b :: c :: s => if b = 39 then (if c = 39 then (zzW s).map (· + 2) else some 0) else (zzW (c :: s)).map (· + 1)
def ze9 (s : Str) : Val × Bool × Str :=
 if s.head? = some 39 then match zzW (s.drop 1) with
  | none => (⟨0, 0, []⟩, false, s)
  | some n => ((ze8 (s.take (n + 2))).1, (ze8 (s.take (n + 2))).2 == 0, s.drop (n + 2))
 else ((ze8 (ztH zG0 s).1).1, (ze8 (ztH zG0 s).1).2 == 0, (ztH zG0 s).2)
def zch (z : UInt8) : List Str → Int → Str → Int × Str
 | [], _, s => (-1, s)
 | w :: l, i, s => if (zaP (w ++ [z]) s).1 then (i, (zaP (w ++ [z]) s).2) else zch z l (i + 1) s
abbrev znd := Str → Sl zal × Bool × Str
def zhO (s : Str) : Int × Str :=
 if (zaP zeY s).1 then (1, (zaP zeY s).2) else if (zaP zeZ s).1 then (2, (zaP zeZ s).2)
 else if (zaP zcZ s).1 then (3, (zaP zcZ s).2) else if (zaP ziz s).1 then (4, (zaP ziz s).2) else (0, s)
def zjq (ann : znd) : Nat → List zad → Str → List zad × Bool × Str
 | 0, acc, s => (acc, false, s)
 | k + 1, acc, s =>
   match ze9 s with
   | (v, ok, s1) => if ok then match zaP zp3 s1 with
     | (c, s2) => if c then match ann s2 with
       | (a, is, s3) => if is then match zaP zkZ s3 with
         | (c, s4) => if c then zjq ann k (acc ++ [.mk v a]) s4 else (acc ++ [.mk v a], true, s4)
         else (acc, false, s3)
       else (acc, false, s2)
     else (acc, false, s1)
def zr5 (ann : znd) (s : Str) : zan × Bool × Str :=
 match zch 123 zc9 0 s with
 | (fn, s1) => if fn < 0 then (.mk 4 ⟨0, 0⟩ Sl.nil fn Sl.nil 0 ⟨0, 0, []⟩, false, s1) else match zjq ann (s1.length + 1) [] s1 with
   | (its, ok, s2) => if ok then match zaP zkE s2 with
     | (c, s3) => if c then match zch 32 zc1 0 s3 with
       | (i, s4) => match ze9 s4 with
         | (v, ok, s5) => (.mk 4 ⟨0, 0⟩ Sl.nil fn (Sl.out its) (5 + i) v, decide (0 ≤ i) && ok, s5)
       else (.mk 4 ⟨0, 0⟩ Sl.nil fn (Sl.out its) 0 ⟨0, 0, []⟩, false, s3)
     else (.mk 4 ⟨0, 0⟩ Sl.nil fn (Sl.out its) 0 ⟨0, 0, []⟩, false, s2)
def zjC (k : Int) (l : List (Sl zal)) : zan := .mk k ⟨0, 0⟩ (Sl.out l) 0 Sl.nil 0 ⟨0, 0, []⟩
def zqg (ann : znd) (s : Str) : zan × Bool × Str :=
 match zhO s with
 | (k, s0) =>
   if k = 0 then (.mk 0 (zic (ztH zFU s0).1).1 Sl.nil 0 Sl.nil 0 ⟨0, 0, []⟩, (zic (ztH zFU s0).1).2 == 0, (ztH zFU s0).2)
   else if k = 4 then match zr5 ann s0 with
    | (x, ok, s1) => if ok then (x, (zaP [93] s1).1, (zaP [93] s1).2) else (x, false, s1)
   else match ann s0 with
    | (a, ok, s1) => if ok then
     (if k = 1 then match zaP zp2 s1 with
      | (c, s2) => if c then match ann s2 with
        | (b, ok2, s3) => if ok2 then (zjC k [a, b], (zaP [93] s3).1, (zaP [93] s3).2) else (zjC k [a, b], false, s3)
        else (zjC k [a], false, s2)
     else (zjC k [a], (zaP [93] s1).1, (zaP [93] s1).2))
     else (zjC k [a], false, s1)
def znw (ann : znd) (s : Str) : zai × Bool × Str :=
 match zqg ann s with
 | (x, ok, s1) => if ok then match zaP [94] s1 with
  | (c, s2) => if c then (.mk x (zg5 s2).1, (zg5 s2).2.1, (zg5 s2).2.2) else (.mk x 1, true, s2)
  else (.mk x 1, false, s1)
def zhx (ann : znd) : Nat → List zai → Str → List zai × Bool × Str
 | 0, acc, s => (acc, false, s)
 | k + 1, acc, s =>
   match znw ann s with
   | (f, ok, s1) => if ok then match zaP [42] s1 with
    | (c, s2) => if c then zhx ann k (acc ++ [f]) s2 else (acc ++ [f], true, s2)
    else (acc, false, s1)
def zmb (s : Str) : Bool := match s with
 | [] => false
 | b :: _ => decide (48 ≤ b.toNat) && decide (b.toNat ≤ 57)
def zv7 (ann : znd) (c : Int) (s : Str) : zal × Bool × Str :=
 match zhx ann (s.length + 1) [] s with
 | (fs, ok, s1) => (.mk c (Sl.out fs), ok, s1)
def ztN (ann : znd) (s : Str) : zal × Bool × Str :=
 if zmb s then match zg5 s with
  | (n, ok, s1) => if ok then match zaP [42] s1 with
   | (c, s2) => if c then zv7 ann n s2 else (.mk n Sl.nil, true, s2)
   else (.mk n Sl.nil, false, s1)
 else zv7 ann 1 s
def zlZ (ann : znd) : Nat → List zal → Str → Sl zal × Bool × Str
 | 0, _, s => (Sl.nil, false, s)
 | k + 1, acc, s =>
   match ztN ann s with
   | (t, ok, s1) => if ok then match zaP zk0 s1 with
    | (c, s2) => if c then zlZ ann k (acc ++ [t]) s2 else (Sl.out (acc ++ [t]), true, s2)
    else (Sl.nil, false, s1)
def zlr : Nat → znd
 | 0, s => (Sl.nil, false, s)
 | d + 1, s => match zaP [48] s with
   | (c, s1) => if c then (Sl.nil, true, s1) else zlZ (zlr d) (s1.length + 1) [] s1
def zcu (s : Str) : Sl zal × Int :=
 match zlr 9 s with
 | (a, ok, r) => if ok && r.isEmpty && zbZ a && zcp a == s then (a, 0) else (Sl.nil, 3)
end Go.Ev
