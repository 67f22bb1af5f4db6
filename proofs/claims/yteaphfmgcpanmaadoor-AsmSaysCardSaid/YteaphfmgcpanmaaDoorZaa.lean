/- A part of the proof: lemmas and walks that the last text of this claim uses. -/

namespace Trp

structure Ins where
  op : Int
  a : Int
  b : Int
  tos : List Int
structure Sig where
  ins : List Int
  out : List Int
structure Fun where
  ty : Int
  locals : List Int
  body : List Ins
structure Imp where
  name : ByteArray
  ty : Int
structure Glo where
  kind : Int
  mu : Bool
  start : Int
structure Exp where
  name : ByteArray
  func : Int
structure Elm where
  pos : Int
  funcs : List Int
structure Dat where
  pos : Int
  bytes : ByteArray
structure Mod where
  types : List Sig
  imports : List Imp
  funcs : List Fun
  table : Int
  pages : Int
  most : Int
  globals : List Glo
  exports : List Exp
  start : Int
  elems : List Elm
  data : List Dat
structure Shp where
  dead : Bool
  stack : List Int
structure Jmp where
  pos : Int
  keep : Int
  height : Int
structure Spt where
  tos : List Jmp
structure Img where
  mem : ByteArray
  table : List Int
  globals : List Int

/-- how many bytes a load or store moves -/
def width (op : Int) : Int :=
  if op = 44 ∨ op = 45 ∨ op = 48 ∨ op = 49 ∨ op = 58 ∨ op = 60 then 1
  else if op = 46 ∨ op = 47 ∨ op = 50 ∨ op = 51 ∨ op = 59 ∨ op = 61 then 2
  else if op = 40 ∨ op = 52 ∨ op = 53 ∨ op = 54 ∨ op = 62 then 4
  else if op = 41 ∨ op = 55 then 8
  else 0

def kindBelow (op below : Int) : Int := if op < below then 127 else 126

/-- in, out, is -/
def numericIn (op : Int) : List Int :=
  if op = 69 ∨ op = 80 then [kindBelow op 80]
  else if 69 < op ∧ op ≤ 90 then [kindBelow op 80, kindBelow op 80]
  else if (103 ≤ op ∧ op ≤ 105) ∨ (121 ≤ op ∧ op ≤ 123) then [kindBelow op 121]
  else if 106 ≤ op ∧ op ≤ 138 then [kindBelow op 121, kindBelow op 121]
  else if op = 167 then [126]
  else if op = 172 ∨ op = 173 then [127]
  else if 192 ≤ op ∧ op ≤ 196 then [kindBelow op 194]
  else []
def numericOut (op : Int) : Int :=
  if op = 69 ∨ op = 80 then 127
  else if 69 < op ∧ op ≤ 90 then 127
  else if (103 ≤ op ∧ op ≤ 105) ∨ (121 ≤ op ∧ op ≤ 123) then kindBelow op 121
  else if 106 ≤ op ∧ op ≤ 138 then kindBelow op 121
  else if op = 167 then 127
  else if op = 172 ∨ op = 173 then 126
  else if 192 ≤ op ∧ op ≤ 196 then kindBelow op 194
  else 0
def numericIs (op : Int) : Bool :=
  decide (op = 69 ∨ op = 80) || decide (69 < op ∧ op ≤ 90) || decide ((103 ≤ op ∧ op ≤ 105) ∨ (121 ≤ op ∧ op ≤ 123)) ||
  decide (106 ≤ op ∧ op ≤ 138) || decide (op = 167) || decide (op = 172 ∨ op = 173) || decide (192 ≤ op ∧ op ≤ 196)

def kindAt (op : Int) : Int :=
  if op = 40 ∨ op = 44 ∨ op = 45 ∨ op = 46 ∨ op = 47 ∨ op = 54 ∨ op = 58 ∨ op = 59 then 127 else 126

def plainIn (op : Int) : List Int :=
  if numericIs op = true then numericIn op
  else if 0 < width op ∧ op < 54 then [127]
  else if 0 < width op then [127, kindAt op]
  else if op = 64 then [127]
  else []
def plainOut (op : Int) : List Int :=
  if numericIs op = true then [numericOut op]
  else if 0 < width op ∧ op < 54 then [kindAt op]
  else if 0 < width op then []
  else if op = 63 ∨ op = 64 ∨ op = 65 then [127]
  else if op = 66 then [126]
  else []
def plainIs (op : Int) : Bool :=
  numericIs op || decide (0 < width op) || decide (op = 63 ∨ op = 64 ∨ op = 65 ∨ op = 66)

/-- what stands beside: 0 unknown, 1 nothing, 2 block, 3 index, 4 ways, 5 indirect, 6 place, 7 zero, 8 const32, 9 const64 -/
def besides (op : Int) : Int :=
  if op = 2 ∨ op = 3 ∨ op = 4 then 2
  else if op = 12 ∨ op = 13 ∨ op = 16 ∨ (32 ≤ op ∧ op ≤ 36) then 3
  else if op = 14 then 4
  else if op = 17 then 5
  else if 0 < width op then 6
  else if op = 63 ∨ op = 64 then 7
  else if op = 65 then 8
  else if op = 66 then 9
  else if op ≤ 1 ∨ op = 5 ∨ op = 11 ∨ op = 15 ∨ op = 26 ∨ op = 27 then 1
  else if numericIs op = true then 1
  else 0

def isIndex (n : Int) : Bool := decide (0 ≤ n ∧ n ≤ 4294967295)

def insGoodA (is : Int) (a b : Int) : Bool :=
  if is = 1 ∨ is = 7 then decide (a = 0)
  else if is = 2 then decide (a = 64 ∨ a = 127 ∨ a = 126)
  else if is = 8 then decide (-2147483648 ≤ a ∧ a ≤ 2147483647)
  else if is = 6 then isIndex a && isIndex b
  else if is = 3 ∨ is = 4 ∨ is = 5 then isIndex a
  else true

/-- ins.Check -/
def insCheck (x : Ins) : Int :=
  if besides x.op = 0 then 6
  else if 16 < x.tos.length then 2
  else if (besides x.op ≠ 4 ∧ 0 < x.tos.length) ∨ (besides x.op ≠ 6 ∧ x.b ≠ 0) then 1
  else if (insGoodA (besides x.op) x.a x.b && x.tos.all isIndex) = true then 0 else 1

/-! ### package nest: a walker over a body -/
structure Wk where
  opens : List Int
  last : List Int
  over : Bool

def Wk.begin : Wk := ⟨[-1], [2], false⟩

def Wk.top (w : Wk) : Nat := w.opens.length - 1

/-- (walker, what it closes, error) -/
def Wk.next (w : Wk) (op pos : Int) : Wk × Int × Int :=
  if w.over = true then (w, -2, 4)
  else if op = 2 ∨ op = 3 ∨ op = 4 then
    if 13 ≤ w.opens.length then (w, -2, 7)
    else (⟨w.opens ++ [pos], w.last ++ [op], w.over⟩, -2, 0)
  else if op = 5 then
    if w.last.getD (w.opens.length - 1) 0 ≠ 4 then (w, -2, 4)
    else (⟨w.opens, w.last.set (w.opens.length - 1) 5, w.over⟩, w.opens.getD (w.opens.length - 1) 0, 0)
  else if op = 11 then
    (⟨w.opens.take (w.opens.length - 1), w.last.take (w.opens.length - 1), decide (w.opens.length = 1)⟩, w.opens.getD (w.opens.length - 1) 0, 0)
  else (w, -2, 0)

/-- the loop of nest.Check, from place i on -/
def nestRun : List Ins → Wk → Int → Int
  | [], w, _ => if w.over = true then 0 else 3
  | x :: r, w, i =>
    if insCheck x ≠ 0 then insCheck x
    else if (w.next x.op i).2.2 ≠ 0 then (w.next x.op i).2.2
    else nestRun r (w.next x.op i).1 (i + 1)

def nestCheck (l : List Ins) : Int := if 200 < l.length then 2 else nestRun l Wk.begin 0

/-- one round of nest.Match on its two lists: 'is' is what place i closes -/
def matchStep (op i is : Int) (ends elses : List Int) : List Int × List Int :=
  let ends := ends.set i.toNat (-1)
  let elses := elses.set i.toNat (-1)
  if op = 5 then (ends, (elses.set i.toNat is).set is.toNat i)
  else if op = 11 then
    let ends := ends.set i.toNat is
    if 0 ≤ is then
      let ends := ends.set is.toNat i
      let k := elses.getD is.toNat 0
      if 0 ≤ k then (ends.set k.toNat i, elses) else (ends, elses)
    else (ends, elses)
  else (ends, elses)

def matchRun : List Ins → Wk → Int → List Int → List Int → List Int × List Int
  | [], _, _, ends, elses => (ends, elses)
  | x :: r, w, i, ends, elses =>
    matchRun r (w.next x.op i).1 (i + 1) (matchStep x.op i (w.next x.op i).2.1 ends elses).1 (matchStep x.op i (w.next x.op i).2.1 ends elses).2

/-- nest.Match: ends, elses (both empty beside an error) -/
def nestEnds (l : List Ins) : List Int :=
  if nestCheck l ≠ 0 then [] else (matchRun l Wk.begin 0 (List.replicate l.length 0) (List.replicate l.length 0)).1
def nestElses (l : List Ins) : List Int :=
  if nestCheck l ≠ 0 then [] else (matchRun l Wk.begin 0 (List.replicate l.length 0) (List.replicate l.length 0)).2

end Trp
