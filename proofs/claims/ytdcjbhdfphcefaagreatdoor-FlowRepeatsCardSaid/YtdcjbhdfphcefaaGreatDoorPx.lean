/- Plain words of layer 5 and of the reader of layer 6: the tokens of a line, what the reader does with the next one. Plain words of layer 6: the expression and the block that tokens make, the blocks of a text. Conditions: those that each lemma names. -/
import Derived.Test.YtdcjbhdfphcefaaGreatDoorBa
import Derived.Test.YtdcjbhdfphcefaaGreatDoorBp
import Derived.PlainAid
import Derived.Test.YtdcjbhdfphcefaaGreatDoorPm
/- Part Pt: Plain words of layer 5 and of the reader of layer 6: the tokens of a line, what the reader does with the next one. No program in sight. Conditions: none. -/
namespace Go.Proofs.YtdcjbhdfphcefaaGreatDoor
set_option linter.unusedVariables false
set_option linter.unusedSimpArgs false
open Go.PlainAid

/-- A token: its kind, number, place and text. -/
structure Tk where
  kind : Int
  n : Int
  pos : Int
  text : ByteArray
def noTk : Tk := ⟨0, 0, 0, ⟨#[]⟩⟩
/-- The names of the language. -/
def namesB : List ByteArray := [⟨#[73, 70]⟩, ⟨#[71, 79, 84, 79]⟩, ⟨#[87, 72, 73, 76, 69]⟩, ⟨#[68, 79]⟩, ⟨#[69, 78, 68]⟩, ⟨#[69, 81]⟩, ⟨#[78, 69]⟩, ⟨#[71, 84]⟩, ⟨#[71, 69]⟩, ⟨#[76, 84]⟩, ⟨#[76, 69]⟩, ⟨#[65, 78, 68]⟩, ⟨#[79, 82]⟩, ⟨#[88, 79, 82]⟩, ⟨#[77, 79, 68]⟩, ⟨#[83, 73, 78]⟩, ⟨#[67, 79, 83]⟩, ⟨#[84, 65, 78]⟩, ⟨#[65, 84, 65, 78]⟩, ⟨#[83, 81, 82, 84]⟩, ⟨#[65, 66, 83]⟩, ⟨#[82, 79, 85, 78, 68]⟩, ⟨#[70, 73, 88]⟩, ⟨#[70, 85, 80]⟩]
def named1 (s : ByteArray) (i : Nat) (best nm : ByteArray) : ByteArray :=
  if nm.size ≤ s.size - i ∧ s.extract i (i + nm.size) = nm ∧ best.size < nm.size then nm else best
/-- The longest name at an offset. -/
def namedS (s : ByteArray) (i : Nat) : ByteArray := namesB.foldl (named1 s i) ⟨#[]⟩
def partB (c : Int) : Bool := decide (48 ≤ c ∧ c ≤ 57) || c == 46
def signB (c : Int) : Bool := c == 43 || c == 45 || c == 42 || c == 47 || c == 61 || c == 35 || c == 91 || c == 93
/-- The first place from i on, of k, at which p does not hold. -/
def scanS (p : Int → Bool) (s : ByteArray) : Nat → Nat → Nat
  | 0, i => i
  | k + 1, i => if p (bt s i) = true then scanS p s k (i + 1) else i
/-- What begins at an offset: where it ends, the token, the error. -/
def lexS (s : ByteArray) (i : Nat) : Nat × Option Tk × Int :=
  let c := bt s i
  if c = 32 ∨ c = 9 ∨ c = 13 then (i + 1, none, 0)
  else if c = 59 then (s.size, none, 0)
  else if c = 40 then
    let t := scanS (fun x => x != 41) s (s.size - (i + 1)) (i + 1)
    if t = s.size then (t, none, 2) else (t + 1, none, 0)
  else if partB c = true then
    let t := scanS partB s (s.size - (i + 1)) (i + 1)
    let r := parseS (strI (s.extract i t))
    if r.2 ≠ 0 then (t, none, 2) else (t, some ⟨2, r.1, i, ⟨#[]⟩⟩, 0)
  else if 65 ≤ c ∧ c ≤ 90 then
    let nm := namedS s i
    if nm.size = 0 then (i + 1, some ⟨1, c, i, ⟨#[]⟩⟩, 0) else (i + nm.size, some ⟨3, 0, i, nm⟩, 0)
  else if signB c = true then (i + 1, some ⟨4, 0, i, s.extract i (i + 1)⟩, 0)
  else (i + 1, none, 2)
/-- The tokens from an offset on, behind those of acc. -/
def tokF (s : ByteArray) : Nat → Nat → List Tk → List Tk × Int × Int
  | 0, i, acc => (acc, (s.size : Int), 0)
  | k + 1, i, acc =>
    if s.size ≤ i then (acc, (s.size : Int), 0)
    else if (lexS s i).2.2 ≠ 0 then ([], (i : Int), 2)
    else tokF s k (lexS s i).1 (acc ++ (lexS s i).2.1.toList)
def tokS (s : ByteArray) : List Tk × Int × Int := tokF s (s.size + 1) 0 []
/-- The reader's state: the next token, the first that cannot follow. -/
abbrev Rs := Nat × Int
def failA (r : Rs) : Rs := if r.2 < 0 then (r.1, (r.1 : Int)) else r
def tokA (l : List Tk) (r : Rs) : Tk := if l.length ≤ r.1 ∨ 0 ≤ r.2 then noTk else l.getD r.1 noTk
def isA (l : List Tk) (r : Rs) (s : ByteArray) : Bool := ((tokA l r).kind == 4 || (tokA l r).kind == 3) && decide ((tokA l r).text = s)
def nxt (r : Rs) : Rs := (r.1 + 1, r.2)
def takeA (l : List Tk) (r : Rs) (s : ByteArray) : Bool × Rs := if isA l r s = true then (true, nxt r) else (false, r)
def wantA (l : List Tk) (r : Rs) (s : ByteArray) : Rs := if isA l r s = true then nxt r else failA r
def cntA (l : List Tk) (most : Int) (r : Rs) : Int × Rs :=
  let q := wholeS (tokA l r).n
  if (tokA l r).kind ≠ 2 ∨ q.2 = false ∨ q.1 < 1 ∨ most < q.1 then (0, failA r) else (q.1, nxt r)
def letA (l : List Tk) (r : Rs) (c : Int) : Bool := (tokA l r).kind == 1 && (tokA l r).n == c
/-- The operator of a function. -/
def funsB : List ByteArray := [⟨#[83, 73, 78]⟩, ⟨#[67, 79, 83]⟩, ⟨#[84, 65, 78]⟩, ⟨#[65, 84, 65, 78]⟩, ⟨#[83, 81, 82, 84]⟩, ⟨#[65, 66, 83]⟩, ⟨#[82, 79, 85, 78, 68]⟩, ⟨#[70, 73, 88]⟩, ⟨#[70, 85, 80]⟩]
def funFrom (s : ByteArray) : List ByteArray → Int → Int
  | [], _ => -1
  | f :: r, i => if f = s then 8 + i else funFrom s r (i + 1)
def funS (s : ByteArray) : Int := funFrom s funsB 0
/-- The signs and operators of a level. -/
def opsS : Nat → List (ByteArray × Int)
  | 0 => [(⟨#[79, 82]⟩, 24), (⟨#[88, 79, 82]⟩, 25)]
  | 1 => [(⟨#[65, 78, 68]⟩, 23)]
  | 2 => [(⟨#[69, 81]⟩, 17), (⟨#[78, 69]⟩, 18), (⟨#[71, 84]⟩, 19), (⟨#[71, 69]⟩, 20), (⟨#[76, 84]⟩, 21), (⟨#[76, 69]⟩, 22)]
  | 3 => [(⟨#[43]⟩, 3), (⟨#[45]⟩, 4)]
  | _ => [(⟨#[42]⟩, 5), (⟨#[47]⟩, 6), (⟨#[77, 79, 68]⟩, 7)]
def opFrom (l : List Tk) (r : Rs) : List (ByteArray × Int) → Option Int
  | [] => none
  | p :: q => if isA l r p.1 = true then some p.2 else opFrom l r q
end Go.Proofs.YtdcjbhdfphcefaaGreatDoor

/- Part Px: Plain words of layer 6: the expression and the block that tokens make, the blocks of a text. No program in sight. Conditions: none. -/
namespace Go.Proofs.YtdcjbhdfphcefaaGreatDoor
set_option linter.unusedVariables false
set_option linter.unusedSimpArgs false
open Go.PlainAid

def zeroT : Tr := .mk 0 0 0 fun _ => .none_
def numA (l : List Tk) (r : Rs) : Tr × Rs := if (tokA l r).kind ≠ 2 then (zeroT, failA r) else (.mk 0 (tokA l r).n 0 (fun _ => .none_), nxt r)
/-- What is read: an expression of a level, the rest of one, a unary one, a primary one, one in brackets, a cell. -/
inductive Md where
  | lev (n : Nat)
  | lop (n : Nat) (x : Tr)
  | una
  | pri
  | brk
  | cel
def t1 (op : Int) (x : Tr) : Tr := .mk op 0 1 fun _ => x
def t2 (op : Int) (x y : Tr) : Tr := .mk op 0 2 fun i => if i = 0 then x else y
def exA (l : List Tk) : Nat → Md → Rs → Tr × Rs
  | 0, _, r => (zeroT, r)
  | k + 1, .lev n, r => if n = 5 then exA l k .una r else exA l k (.lop n (exA l k (.lev (n + 1)) r).1) (exA l k (.lev (n + 1)) r).2
  | k + 1, .lop n x, r => match opFrom l r (opsS n) with
    | none => (x, r)
    | some op => let y := exA l k (.lev (n + 1)) (nxt r)
      if n = 2 then (t2 op x y.1, y.2) else exA l k (.lop n (t2 op x y.1)) y.2
  | k + 1, .una, r =>
    if isA l r ⟨#[43]⟩ = true then exA l k .una (nxt r)
    else if isA l r ⟨#[45]⟩ = true then (t1 2 (exA l k .una (nxt r)).1, (exA l k .una (nxt r)).2)
    else exA l k .pri r
  | k + 1, .pri, r =>
    let op := if (tokA l r).kind = 3 then funS (tokA l r).text else -1
    if op < 0 then exA l k .cel r
    else
      let a := exA l k .brk (nxt r)
      if op = 11 then
        let b := exA l k .brk (wantA l a.2 ⟨#[47]⟩)
        (t2 op a.1 b.1, b.2)
      else (t1 op a.1, a.2)
  | k + 1, .brk, r => let a := exA l k (.lev 0) (wantA l r ⟨#[91]⟩); (a.1, wantA l a.2 ⟨#[93]⟩)
  | k + 1, .cel, r =>
    if isA l r ⟨#[35]⟩ = true then (t1 1 (exA l k .cel (nxt r)).1, (exA l k .cel (nxt r)).2)
    else if isA l r ⟨#[91]⟩ = true then exA l k .brk r
    else numA l r
/-- How many rounds are wanted. -/
def leftA (l : List Tk) (r : Rs) : Nat := if 0 ≤ r.2 then 0 else l.length - r.1 + 1
def b0 : Md → Nat
  | .lev n => 4 + 2 * (5 - n)
  | .lop n _ => 3 + 2 * (5 - n)
  | .una => 3
  | .pri => 2
  | .brk => 15
  | .cel => 1
def b1 : Md → Nat
  | .lev n => 19 + 2 * (5 - n)
  | .lop n _ => 18 + 2 * (5 - n)
  | .una => 18
  | .pri => 17
  | .brk => 15
  | .cel => 16
def costA (l : List Tk) (m : Md) (r : Rs) : Nat := if leftA l r = 0 then b0 m else 40 * leftA l r + b1 m
def levA (l : List Tk) (r : Rs) : Tr × Rs := exA l (costA l (.lev 0) r) (.lev 0) r
def celA (l : List Tk) (r : Rs) : Tr × Rs := exA l (costA l .cel r) .cel r
def brkA (l : List Tk) (r : Rs) : Tr × Rs := exA l (costA l .brk r) .brk r
/-- The value of a word. -/
def valA (l : List Tk) (r : Rs) : Tr × Rs :=
  if isA l r ⟨#[45]⟩ = true then (t1 2 (celA l (nxt r)).1, (celA l (nxt r)).2)
  else celA l (takeA l r ⟨#[43]⟩).2
def wordsA (l : List Tk) : Nat → Rs → List (Int × Tr) → List (Int × Tr) × Rs
  | 0, r, acc => (acc, r)
  | k + 1, r, acc =>
    if (tokA l r).kind = 1 ∧ letA l r 78 = false ∧ letA l r 79 = false then
      wordsA l k (valA l (nxt r)).2 (acc ++ [((tokA l r).n, (valA l (nxt r)).1)])
    else (acc, r)
/-- A block as it is filled, and the reader's state. -/
def bk0 (skip : Bool) (label : Int) : Bk := ⟨0, label, skip, [], zeroT, zeroT, 0⟩
def contentA (l : List Tk) (r : Rs) (b : Bk) : Bk × Rs :=
  if isA l r ⟨#[35]⟩ = true then
    let a := celA l (nxt r)
    let x := levA l (wantA l a.2 ⟨#[61]⟩)
    ({ b with kind := 1, left := a.1, x := x.1 }, x.2)
  else if isA l r ⟨#[73, 70]⟩ = true then
    let a := brkA l (nxt r)
    let x := valA l (wantA l a.2 ⟨#[71, 79, 84, 79]⟩)
    ({ b with kind := 3, x := a.1, left := x.1 }, x.2)
  else if isA l r ⟨#[71, 79, 84, 79]⟩ = true then
    let a := valA l (nxt r)
    ({ b with kind := 2, x := a.1 }, a.2)
  else if isA l r ⟨#[87, 72, 73, 76, 69]⟩ = true then
    let a := brkA l (nxt r)
    let c := cntA l 3 (wantA l a.2 ⟨#[68, 79]⟩)
    ({ b with kind := 4, x := a.1, n := c.1 }, c.2)
  else if isA l r ⟨#[69, 78, 68]⟩ = true then
    let c := cntA l 3 (nxt r)
    ({ b with kind := 5, n := c.1 }, c.2)
  else if letA l r 79 = true then
    let c := cntA l 99999 (nxt r)
    ({ b with kind := 6, n := c.1 }, c.2)
  else
    let ws := wordsA l (leftA l r) r b.words
    ({ b with words := ws.1 }, ws.2)
def endA (l : List Tk) (r : Rs) : Rs := if r.1 < l.length then failA r else r
/-- The depth of an expression, at most so much. -/
def depthS : Nat → Tr → Nat
  | _, .none_ => 1
  | 0, .mk _ _ _ _ => 1
  | m + 1, .mk _ _ k kid => (if m = 0 then 0 else (List.range k).foldl (fun d i => max d (depthS m (kid i))) 0) + 1
def noB : Bk := ⟨0, 0, false, [], zeroT, zeroT, 0⟩
def deepB (b : Bk) : Bool := decide (24 < b.words.length) || decide (16 < depthS 17 b.left) || decide (16 < depthS 17 b.x) || b.words.any fun x => decide (16 < depthS 17 x.2)
def headA (l : List Tk) : Bk × Rs :=
  let r0 := takeA l (0, -1) ⟨#[47]⟩
  if letA l r0.2 78 = true then
    let c := cntA l 99999 (nxt r0.2)
    (bk0 r0.1 c.1, c.2)
  else (bk0 r0.1 0, r0.2)
/-- The block of a line: the block, where an error is, the error. -/
def lineS (s : ByteArray) : Bk × Int × Int :=
  if 65536 < s.size then (noB, 0, 10)
  else
    let t := tokS s
    if t.2.2 ≠ 0 then (noB, t.2.1, t.2.2)
    else
      let h := headA t.1
      let c := contentA t.1 h.2 h.1
      let r := endA t.1 c.2
      if 0 ≤ r.2 then (noB, if r.2 < t.1.length then (t.1.getD r.2.toNat noTk).pos else (s.size : Int), 2)
      else if deepB c.1 = true then (noB, 0, 10)
      else (c.1, (s.size : Int), 0)
/-- The lines of a text. -/
def linesF (s : ByteArray) : Nat → Nat → Nat → List ByteArray
  | 0, fr, i => if fr < s.size then [s.extract fr s.size] else []
  | k + 1, fr, i => if bt s i = 10 then s.extract fr i :: linesF s k (i + 1) (i + 1) else linesF s k fr (i + 1)
def linesS (s : ByteArray) : List ByteArray := linesF s s.size 0 0
def blocksF : List ByteArray → Nat → List Bk → List Bk × Int × Int
  | [], i, acc => (acc, (i : Int), 0)
  | x :: r, i, acc => if (lineS x).2.2 ≠ 0 then ([], (i : Int), (lineS x).2.2) else blocksF r (i + 1) (acc ++ [(lineS x).1])
/-- The blocks of a text. -/
def textS (s : ByteArray) : List Bk × Int × Int :=
  if 65536 < s.size then ([], 0, 10)
  else if 2000 < (linesS s).length then ([], 0, 10)
  else blocksF (linesS s) 0 []
end Go.Proofs.YtdcjbhdfphcefaaGreatDoor
