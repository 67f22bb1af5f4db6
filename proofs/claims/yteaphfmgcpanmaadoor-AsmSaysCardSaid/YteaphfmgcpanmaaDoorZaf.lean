/- A part of the proof: lemmas and walks that the last text of this claim uses. -/
import Derived.Test.YteaphfmgcpanmaaDoorZae

namespace Go.Proofs.YteaphfmgcpanmaaDoor
set_option linter.unusedVariables false
set_option linter.unusedSimpArgs false
open Go.RowKit Go.Proofs.YteaphfmgcpanmaaDoorW.PrintWords

structure MkAt (w : World) (base g eb lb ce cl : Nat) (A : Option Addr) (n c : Nat) (E L : List Int) : Prop where
  hg : w.heap[g]? = some (.cells #[.slice A n c, .slice (some ⟨eb, 0, none⟩) n ce, .slice (some ⟨lb, 0, none⟩) n cl] 85 (0, 0))
  hE : (Kd.int .i64).R 3 w base (fun k => k = eb) (.slice (some ⟨eb, 0, none⟩) n ce) E
  hL : (Kd.int .i64).R 3 w base (fun k => k = lb) (.slice (some ⟨lb, 0, none⟩) n cl) L
  lE : E.length = n
  lL : L.length = n
  bg : base ≤ g
  be : base ≤ eb
  bl : base ≤ lb
  ge : g ≠ eb
  gl : g ≠ lb
  el : eb ≠ lb
  lt : g < w.heap.size
  lte : eb < w.heap.size
  ltl : lb < w.heap.size
section
variable {w w1 : World} {base g eb lb ce cl n c : Nat} {A : Option Addr} {E L : List Int}
theorem MkAt.kp {S : Nat → Prop} (h : MkAt w base g eb lb ce cl A n c E L) (k : Kp S w w1) (hg : ¬ S g) (he : ¬ S eb) (hl : ¬ S lb) : MkAt w1 base g eb lb ce cl A n c E L :=
  ⟨k.blk h.hg hg, k.R h.hE (fun q e => by subst e; exact he), k.R h.hL (fun q e => by subst e; exact hl), h.lE, h.lL, h.bg, h.be, h.bl, h.ge, h.gl, h.el, Nat.lt_of_lt_of_le h.lt k.size, Nat.lt_of_lt_of_le h.lte k.size, Nat.lt_of_lt_of_le h.ltl k.size⟩
theorem MkAt.below (h : MkAt w base g eb lb ce cl A n c E L) (hb : Below w.heap.size w w1) : MkAt w1 base g eb lb ce cl A n c E L :=
  h.kp (S := fun _ => False) (.of_below hb) id id id
theorem MkAt.alloc (h : MkAt w base g eb lb ce cl A n c E L) (o : Obj) : MkAt (w.alloc o) base g eb lb ce cl A n c E L := h.below ((Below.refl _ _).alloc (Nat.le_refl _) o)
theorem MkAt.drew (h : MkAt w base g eb lb ce cl A n c E L) : MkAt w.drew base g eb lb ce cl A n c E L := h.below (Below.refl _ _).drew
theorem MkAt.putE (h : MkAt w base g eb lb ce cl A n c E L) (i : Nat) (v : Int) : MkAt (w.setCell ⟨eb, i, none⟩ (.int .i64 v)) base g eb lb ce cl A n c (E.set i v) L := by
  have hp := (Kd.R_put (g := eb) (cap := ce) (by rw [h.lE]; exact h.hE) (i : Int) v).1
  rw [Int.toNat_natCast, h.lE] at hp
  exact ⟨blk_far h.hg (p := ⟨eb, i, none⟩) h.ge _, hp, Kd.R_far (p := ⟨eb, i, none⟩) h.hL (fun k e => by subst e; exact fun q => h.el q.symm) _, by rw [List.length_set]; exact h.lE, h.lL, h.bg, h.be, h.bl, h.ge, h.gl, h.el, by simpa using h.lt, by simpa using h.lte, by simpa using h.ltl⟩
theorem MkAt.putL (h : MkAt w base g eb lb ce cl A n c E L) (i : Nat) (v : Int) : MkAt (w.setCell ⟨lb, i, none⟩ (.int .i64 v)) base g eb lb ce cl A n c E (L.set i v) := by
  have hp := (Kd.R_put (g := lb) (cap := cl) (by rw [h.lL]; exact h.hL) (i : Int) v).1
  rw [Int.toNat_natCast, h.lL] at hp
  exact ⟨blk_far h.hg (p := ⟨lb, i, none⟩) h.gl _, Kd.R_far (p := ⟨lb, i, none⟩) h.hE (fun k e => by subst e; exact h.el) _, hp, h.lE, by rw [List.length_set]; exact h.lL, h.bg, h.be, h.bl, h.ge, h.gl, h.el, by simpa using h.lt, by simpa using h.lte, by simpa using h.ltl⟩
theorem MkAt.cellE (h : MkAt w base g eb lb ce cl A n c E L) (i : Nat) (hi : i < n) : w.cell? ⟨eb, i, none⟩ = some (.int .i64 (E.getD i 0)) ∧ w.frozen? ⟨eb, i, none⟩ = false := by
  have := Kd.R_cell (0 : Int) (g := eb) (cap := ce) (by rw [h.lE]; exact h.hE) (i : Int) (by omega) (by rw [h.lE]; omega)
  rw [Int.toNat_natCast] at this
  simpa [rdOf] using this
theorem MkAt.cellL (h : MkAt w base g eb lb ce cl A n c E L) (i : Nat) (hi : i < n) : w.cell? ⟨lb, i, none⟩ = some (.int .i64 (L.getD i 0)) ∧ w.frozen? ⟨lb, i, none⟩ = false := by
  have := Kd.R_cell (0 : Int) (g := lb) (cap := cl) (by rw [h.lL]; exact h.hL) (i : Int) (by omega) (by rw [h.lL]; omega)
  rw [Int.toNat_natCast] at this
  simpa [rdOf] using this
theorem MkAt.caps (h : MkAt w base g eb lb ce cl A n c E L) : n ≤ ce ∧ n ≤ cl := ⟨by have := (Kd.R_reads' h.hE).2.1; omega, by have := (Kd.R_reads' h.hL).2.1; omega⟩
theorem MkAt.c0 (h : MkAt w base g eb lb ce cl A n c E L) : w.cell? ⟨g, 0, none⟩ = some (.slice A n c) ∧ w.cell? ⟨g, 1, none⟩ = some (.slice (some ⟨eb, 0, none⟩) n ce) ∧ w.cell? ⟨g, 2, none⟩ = some (.slice (some ⟨lb, 0, none⟩) n cl) :=
  ⟨by rw [blk_cell h.hg]; rfl, by rw [blk_cell h.hg]; rfl, by rw [blk_cell h.hg]; rfl⟩
end
end Go.Proofs.YteaphfmgcpanmaaDoor

set_option linter.unusedVariables false
set_option linter.unusedSimpArgs false
namespace Trp

/-! ### what both sides share -/
def zSig : Sig := ⟨[], []⟩
def zFun : Fun := ⟨0, [], []⟩
def zImp : Imp := ⟨⟨#[]⟩, 0⟩
def zGlo : Glo := ⟨0, false, 0⟩
/-- is it the number of a function? -/
def sigIs (m : Mod) (n : Int) : Bool := decide (0 ≤ n ∧ n < (m.imports.length : Int) + m.funcs.length)
def tyAt (m : Mod) (n : Int) : Int := if n < m.imports.length then (m.imports.getD n.toNat zImp).ty else (m.funcs.getD (n - m.imports.length).toNat zFun).ty
def sigOf (m : Mod) (n : Int) : Sig := if sigIs m n = true then m.types.getD (tyAt m n).toNat zSig else zSig

/-! ### the program's checker -/
structure Part where
  op : Int
  kind : Int
  base : Int
  dead : Bool
  under : Bool
def zPart : Part := ⟨0, 0, 0, false, false⟩
def Part.along (p : Part) : Int := if p.op = 3 then 64 else p.kind
structure Ck where
  stack : List Int
  opens : List Part
  bad : Int

namespace Ck
def fail (c : Ck) (e : Int) : Ck := if c.bad = 0 then ⟨c.stack, c.opens, e⟩ else c
def top (c : Ck) : Part := c.opens.getD (c.opens.length - 1) zPart
def push (c : Ck) (k : Int) : Ck := if k = 64 then c else ⟨c.stack ++ [k], c.opens, c.bad⟩
def init (c : Ck) : Ck := ⟨c.stack.take (c.stack.length - 1), c.opens, c.bad⟩
def pop (c : Ck) (want : Int) : Ck :=
  if want = 64 then c
  else if (c.stack.length : Int) = c.top.base then (if c.top.dead = true then c else c.fail 10)
  else if c.stack.getD (c.stack.length - 1) 0 = 0 then c.init
  else if want ≠ 0 ∧ c.stack.getD (c.stack.length - 1) 0 ≠ want then c.init.fail 10
  else c.init
def got (c : Ck) (want : Int) : Int :=
  if want = 64 then want
  else if (c.stack.length : Int) = c.top.base then want
  else if c.stack.getD (c.stack.length - 1) 0 = 0 then want
  else c.stack.getD (c.stack.length - 1) 0
def takes (c : Ck) (l : List Int) : Ck := l.foldr (fun k c => c.pop k) c
def gives (c : Ck) (l : List Int) : Ck := l.foldl push c
def die (c : Ck) : Ck := ⟨c.stack.take c.top.base.toNat, c.opens.set (c.opens.length - 1) ⟨c.top.op, c.top.kind, c.top.base, true, c.top.under⟩, c.bad⟩
def out (c : Ck) (n : Int) : Ck := if (c.opens.length : Int) ≤ n then c.fail 8 else c
def outP (c : Ck) (n : Int) : Part := if (c.opens.length : Int) ≤ n then zPart else c.opens.getD (c.opens.length - 1 - n.toNat) zPart
def begin (c : Ck) (op kind : Int) : Ck := ⟨c.stack, c.opens ++ [⟨op, kind, c.stack.length, false, decide (0 < c.opens.length) && (c.top.dead || c.top.under)⟩], c.bad⟩
def close (c : Ck) : Ck := if ((c.pop c.top.kind).stack.length : Int) = c.top.base then c.pop c.top.kind else (c.pop c.top.kind).fail 10
def up (c : Ck) : Ck := ⟨c.stack, c.opens.take (c.opens.length - 1), c.bad⟩
def toElse (c : Ck) (p : Part) : Ck := if c.bad = 0 then ⟨c.stack, c.opens.take (c.opens.length - 1) ++ [⟨5, p.kind, p.base, false, p.under⟩], c.bad⟩ else c
def toEnd (c : Ck) (p : Part) : Ck :=
  if (if p.op = 4 ∧ p.kind ≠ 64 then c.fail 10 else c).bad = 0 then (if p.op = 4 ∧ p.kind ≠ 64 then c.fail 10 else c).up.push p.kind
  else (if p.op = 4 ∧ p.kind ≠ 64 then c.fail 10 else c)
def way (c : Ck) (a : Int) : Ck := if (c.out a).bad = 0 then (c.out a).pop (c.outP a).along else c.out a
def brIf (c : Ck) (a : Int) : Ck :=
  if (c.out a).bad = 0 then (((c.out a).pop 127).pop (c.outP a).along).push (c.outP a).along else c.out a
def outs (c : Ck) (l : List Int) : Ck := l.foldl out c
def sames (c : Ck) (k : Int) (l : List Int) : Bool := l.all fun n => decide ((c.outP n).along = k)
def table (c : Ck) (a : Int) (l : List Int) : Ck :=
  if ((c.out a).outs l).bad ≠ 0 then (c.out a).outs l
  else ((if (c.out a).sames (c.outP a).along l = true then (c.out a).outs l else ((c.out a).outs l).fail 10).pop 127).pop (c.outP a).along
def control (c : Ck) (x : Ins) : Ck :=
  if x.op = 0 then c.die
  else if x.op = 2 ∨ x.op = 3 then c.begin x.op (x.a % 256)
  else if x.op = 4 then (c.pop 127).begin x.op (x.a % 256)
  else if x.op = 5 then c.close.toElse c.top
  else if x.op = 11 then c.close.toEnd c.top
  else if x.op = 12 then (c.way x.a).die
  else if x.op = 13 then c.brIf x.a
  else if x.op = 15 then (c.pop (c.opens.getD 0 zPart).kind).die
  else if x.op = 14 then (c.table x.a x.tos).die
  else c
def call (c : Ck) (m : Mod) (x : Ins) : Ck :=
  if x.op = 16 then
    if sigIs m x.a = false then c.fail 8 else (c.takes (sigOf m x.a).ins).gives (sigOf m x.a).out
  else if m.table = 0 ∨ (m.types.length : Int) ≤ x.a then c.fail 8
  else ((c.pop 127).takes (m.types.getD x.a.toNat zSig).ins).gives (m.types.getD x.a.toNat zSig).out
def local1 (c : Ck) (x : Ins) (k : Int) : Ck :=
  if x.op = 32 then c.push k else if x.op = 33 then c.pop k else (c.pop k).push k
def value (c : Ck) (m : Mod) (loc : List Int) (x : Ins) : Ck :=
  if x.op < 35 then (if (loc.length : Int) ≤ x.a then c.fail 8 else c.local1 x (loc.getD x.a.toNat 0))
  else if (m.globals.length : Int) ≤ x.a then c.fail 8
  else if x.op = 35 then c.push (m.globals.getD x.a.toNat zGlo).kind
  else (if (m.globals.getD x.a.toNat zGlo).mu = true then c else c.fail 10).pop (m.globals.getD x.a.toNat zGlo).kind
def choose (c : Ck) : Ck := (((c.pop 127).pop 0).pop ((c.pop 127).got 0)).push (((c.pop 127).pop 0).got ((c.pop 127).got 0))
def wideA (w a : Int) : Bool := decide (3 < a) || decide (w < 2 ^ a.toNat)
def plain (c : Ck) (m : Mod) (x : Ins) : Ck :=
  if m.most = 0 ∧ (0 < width x.op ∨ x.op = 63 ∨ x.op = 64) then c.fail 8
  else if 0 < width x.op ∧ wideA (width x.op) x.a = true then c.fail 9
  else (c.takes (plainIn x.op)).gives (plainOut x.op)
def one (c : Ck) (m : Mod) (loc : List Int) (x : Ins) : Ck :=
  if x.op = 1 then c
  else if x.op ≤ 15 then c.control x
  else if x.op ≤ 17 then c.call m x
  else if x.op = 26 then c.pop 0
  else if x.op = 27 then c.choose
  else if x.op ≤ 36 then c.value m loc x
  else c.plain m x
def shape (c : Ck) : Shp := if (c.top.dead || c.top.under) = true then ⟨true, []⟩ else ⟨false, c.stack⟩
end Ck

/-- the program's run over a body from place i on: where, what, and what was seen -/
def vGo (m : Mod) (loc : List Int) : List Ins → Nat → Ck → List Shp → Int × Int × List Shp
  | [], _, _, sh => (0, 0, sh)
  | x :: r, i, c, sh => if (c.one m loc x).bad ≠ 0 then (i, (c.one m loc x).bad, sh.set i c.shape) else vGo m loc r (i + 1) (c.one m loc x) (sh.set i c.shape)

/-! ### the reference's typing -/
structure Lab where
  gives : Int
  along : Int
def zLab : Lab := ⟨0, 0⟩
structure Own where
  l : List Int
  dead : Bool
namespace Own
def pull (o : Own) : Own := ⟨o.l.take (o.l.length - 1), o.dead⟩
def take (o : Own) (k : Int) : Own := if k = 64 then o else if o.l.length = 0 then o else o.pull
def takeK (o : Own) (k : Int) : Int := if k = 64 then k else if o.l.length = 0 then k else if o.l.getD (o.l.length - 1) 0 = 1 then k else o.l.getD (o.l.length - 1) 0
def takeB (o : Own) (k : Int) : Bool := if k = 64 then true else if o.l.length = 0 then o.dead else if o.l.getD (o.l.length - 1) 0 = 1 then true else decide (k = 1 ∨ o.l.getD (o.l.length - 1) 0 = k)
def give (o : Own) (k : Int) : Own := if k = 64 then o else ⟨o.l ++ [k], o.dead⟩
def takeAll (o : Own) (l : List Int) : Own := l.foldr (fun k o => o.take k) o
def takeAllB (o : Own) : List Int → Bool
  | [] => true
  | k :: l => takeAllB o l && (o.takeAll l).takeB k
def gives (o : Own) (l : List Int) : Own := l.foldl give o
def all (o : Own) (i t : List Int) : Own := (o.takeAll i).gives t
def closes (o : Own) (k : Int) : Bool := o.takeB k && decide ((o.take k).l.length = 0)
def dies (o : Own) : Own := ⟨[], true⟩
end Own

structure Ty where
  shapes : List Shp
  pos : Int
  bad : Int
namespace Ty
def fail (t : Ty) (i e : Int) : Ty := if t.bad = 0 then ⟨t.shapes, i, e⟩ else t
def shape (t : Ty) (i : Nat) (o : Own) (below : List Int) (under : Bool) : Ty :=
  ⟨t.shapes.set i (if (o.dead || under) = true then ⟨true, []⟩ else ⟨false, below ++ o.l⟩), t.pos, t.bad⟩
end Ty

def wayA (n : Int) (x : Ins) : Int := if x.op = 15 then n - 1 else x.a
def wayBad (n : Int) (x : Ins) : Bool := (x.tos ++ [wayA n x]).any fun k => decide (n ≤ k)
def wayAlong (labs : List Lab) (x : Ins) : Int := (labs.getD ((labs.length : Int) - 1 - wayA labs.length x).toNat zLab).along
def waySame (labs : List Lab) (x : Ins) : Bool := x.tos.all fun k => decide ((labs.getD ((labs.length : Int) - 1 - k).toNat zLab).along = wayAlong labs x)
/-- what a way out does: the own part, the error -/
def rWay (labs : List Lab) (o : Own) (x : Ins) : Own × Int :=
  if wayBad labs.length x = true then (o, 8)
  else
    let o1 := if x.op = 13 ∨ x.op = 14 then o.take 127 else o
    let good := waySame labs x && (if x.op = 13 ∨ x.op = 14 then o.takeB 127 else true)
    let o2 := o1.take (wayAlong labs x)
    (if x.op = 13 then o2.give (wayAlong labs x) else o2.dies, if (good && o1.takeB (wayAlong labs x)) = true then 0 else 10)

def maxA (w : Int) : Int := if w = 2 then 1 else if w = 4 then 2 else if w = 8 then 3 else 0
/-- what an instruction takes, gives, or an error -/
def rSig (m : Mod) (loc : List Int) (x : Ins) : List Int × List Int × Int :=
  if x.op = 1 then ([], [], 0)
  else if x.op = 16 then (if sigIs m x.a = true then ((sigOf m x.a).ins, (sigOf m x.a).out, 0) else ([], [], 8))
  else if x.op = 17 then (if m.table = 0 ∨ (m.types.length : Int) ≤ x.a then ([], [], 8) else ((m.types.getD x.a.toNat zSig).ins ++ [127], (m.types.getD x.a.toNat zSig).out, 0))
  else if x.op = 26 then ([1], [], 0)
  else if x.op = 32 ∨ x.op = 33 ∨ x.op = 34 then
    (if (loc.length : Int) ≤ x.a then ([], [], 8)
    else (if x.op = 32 then [] else [loc.getD x.a.toNat 0], if x.op = 33 then [] else [loc.getD x.a.toNat 0], 0))
  else if x.op = 35 ∨ x.op = 36 then
    (if (m.globals.length : Int) ≤ x.a then ([], [], 8)
    else if x.op = 36 ∧ (m.globals.getD x.a.toNat zGlo).mu = false then ([], [], 10)
    else (if x.op = 35 then [] else [(m.globals.getD x.a.toNat zGlo).kind], if x.op = 35 then [(m.globals.getD x.a.toNat zGlo).kind] else [], 0))
  else if (0 < width x.op ∨ x.op = 63 ∨ x.op = 64) ∧ m.most = 0 then ([], [], 8)
  else if 0 < width x.op ∧ maxA (width x.op) < x.a then ([], [], 9)
  else (plainIn x.op, plainOut x.op, 0)
def rPlain (m : Mod) (loc : List Int) (o : Own) (x : Ins) : Own × Int :=
  if x.op = 27 then
    let o1 := o.take 127
    let k1 := o1.takeK 1
    let o2 := o1.take 1
    let k2 := o2.takeK k1
    let o3 := o2.take k1
    (o3.give k2, if (o.takeB 127 && o1.takeB 1 && o2.takeB k1) = true then 0 else 10)
  else
    let s := rSig m loc x
    if s.2.2 ≠ 0 then (o, s.2.2)
    else (o.all s.1 s.2.1, if o.takeAllB s.1 = true then 0 else 10)
def rSimple (m : Mod) (loc : List Int) (labs : List Lab) (o : Own) (x : Ins) : Own × Int :=
  if x.op = 0 then (o.dies, 0)
  else if 12 ≤ x.op ∧ x.op ≤ 15 then rWay labs o x
  else rPlain m loc o x
def isBlk (op : Int) : Bool := decide (2 ≤ op ∧ op ≤ 4)
def Ty.failIf (t : Ty) (i e : Int) : Ty := if e = 0 then t else t.fail i e
/-- behind a part's row -/
def partEnd (r : Own × Ty) (to : Nat) (k : Int) (below : List Int) (under : Bool) : Ty :=
  if r.2.bad ≠ 0 then r.2
  else if r.1.closes k = true then r.2.shape to r.1 below under else (r.2.shape to r.1 below under).fail to 10
def inLab (x : Ins) : Lab := ⟨x.a % 256, if x.op = 3 then 64 else x.a % 256⟩
/-- what 'if' takes ahead of its block -/
def popO (x : Ins) (o : Own) : Own := if x.op = 4 then o.take 127 else o
def popB (x : Ins) (o : Own) : Bool := if x.op = 4 then o.takeB 127 else true
def popT (x : Ins) (o : Own) (t : Ty) (i : Nat) : Ty := if popB x o = true then t else t.fail i 10
/-- an 'if' without else gives nothing -/
def ifEnd (x : Ins) (t : Ty) (en : Nat) : Ty := if x.op = 4 ∧ x.a % 256 ≠ 64 then t.fail en 10 else t
def rRow (m : Mod) (loc : List Int) (l : List Ins) (E L : List Int) : Nat → Nat → Nat → List Lab → List Int → Bool → Own → Ty → Own × Ty
  | 0, _, _, _, _, _, o, t => (o, t)
  | f + 1, i, to, labs, below, under, o, t =>
    if i < to ∧ t.bad = 0 then
      if isBlk (l.getD i zIns).op = true then
        rRow m loc l E L f ((E.getD i 0).toNat + 1) to labs below under ((popO (l.getD i zIns) o).give ((l.getD i zIns).a % 256))
          (if 0 ≤ L.getD i 0 then
            partEnd (rRow m loc l E L f ((L.getD i 0).toNat + 1) (E.getD i 0).toNat (labs ++ [inLab (l.getD i zIns)]) (below ++ (popO (l.getD i zIns) o).l) (under || o.dead) ⟨[], false⟩
              (partEnd (rRow m loc l E L f (i + 1) (L.getD i 0).toNat (labs ++ [inLab (l.getD i zIns)]) (below ++ (popO (l.getD i zIns) o).l) (under || o.dead) ⟨[], false⟩ (popT (l.getD i zIns) o (t.shape i o below under) i))
                (L.getD i 0).toNat ((l.getD i zIns).a % 256) (below ++ (popO (l.getD i zIns) o).l) (under || o.dead)))
              (E.getD i 0).toNat ((l.getD i zIns).a % 256) (below ++ (popO (l.getD i zIns) o).l) (under || o.dead)
          else
            ifEnd (l.getD i zIns) (partEnd (rRow m loc l E L f (i + 1) (E.getD i 0).toNat (labs ++ [inLab (l.getD i zIns)]) (below ++ (popO (l.getD i zIns) o).l) (under || o.dead) ⟨[], false⟩ (popT (l.getD i zIns) o (t.shape i o below under) i))
              (E.getD i 0).toNat ((l.getD i zIns).a % 256) (below ++ (popO (l.getD i zIns) o).l) (under || o.dead)) (E.getD i 0).toNat)
      else
        rRow m loc l E L f (i + 1) to labs below under (rSimple m loc labs o (l.getD i zIns)).1 ((t.shape i o below under).failIf i (rSimple m loc labs o (l.getD i zIns)).2)
    else (o, t)

/-- a body's nesting at one level: from place i up to place j, where its end or else stands -/
inductive Nest (l : List Ins) (E L : List Int) : Nat → Nat → Prop
  | stop {j} : j < l.length → ((l.getD j zIns).op = 5 ∨ (l.getD j zIns).op = 11) → Nest l E L j j
  | plain {i j} : i < l.length → insCheck (l.getD i zIns) = 0 → ¬ ((l.getD i zIns).op = 5 ∨ (l.getD i zIns).op = 11) → isBlk (l.getD i zIns).op = false → Nest l E L (i + 1) j → Nest l E L i j
  | block {i e j} : i < l.length → insCheck (l.getD i zIns) = 0 → isBlk (l.getD i zIns).op = true → Nest l E L (i + 1) e → (l.getD e zIns).op = 11 → E.getD i 0 = (e : Int) → L.getD i 0 = -1 → Nest l E L (e + 1) j → Nest l E L i j
  | choice {i h e j} : i < l.length → insCheck (l.getD i zIns) = 0 → (l.getD i zIns).op = 4 → Nest l E L (i + 1) h → (l.getD h zIns).op = 5 → Nest l E L (h + 1) e → (l.getD e zIns).op = 11 → E.getD i 0 = (e : Int) → L.getD i 0 = (h : Int) → Nest l E L (e + 1) j → Nest l E L i j
theorem Nest.le {l : List Ins} {E L : List Int} {i j : Nat} (h : Nest l E L i j) : i ≤ j ∧ j < l.length ∧ ((l.getD j zIns).op = 5 ∨ (l.getD j zIns).op = 11) := by
  induction h with
  | stop h1 h2 => exact ⟨Nat.le_refl _, h1, h2⟩
  | plain _ _ _ _ _ ih => exact ⟨by omega, ih.2⟩
  | block _ _ _ _ _ _ _ _ ih1 ih2 => exact ⟨by omega, ih2.2⟩
  | choice _ _ _ _ _ _ _ _ _ _ ih1 ih2 ih3 => exact ⟨by omega, ih3.2⟩
end Trp

set_option linter.unusedVariables false
set_option linter.unusedSimpArgs false
namespace Trp

def fz (k : Int) : Int := if k = 1 then 0 else k
/-- a value's kind, 'whichever' among them -/
def V (k : Int) : Prop := k = 1 ∨ k = 126 ∨ k = 127
/-- a kind proper -/
def K2 (k : Int) : Prop := k = 126 ∨ k = 127
def K3 (k : Int) : Prop := k = 64 ∨ k = 126 ∨ k = 127
theorem K2.V {k : Int} (h : K2 k) : V k := by unfold K2 at h; unfold Trp.V; omega
theorem K2.K3 {k : Int} (h : K2 k) : K3 k := by unfold K2 at h; unfold Trp.K3; omega
theorem fz_K2 {k : Int} (h : K2 k) : fz k = k := by unfold K2 at h; unfold fz; rw [if_neg (by omega)]
theorem fz_K3 {k : Int} (h : K3 k) : fz k = k := by unfold K3 at h; unfold fz; rw [if_neg (by omega)]
theorem map_fz {l : List Int} (h : ∀ k ∈ l, k ≠ 1) : l.map fz = l := by
  induction l with
  | nil => rfl
  | cons a l ih => rw [List.map_cons, ih fun k hk => h k (List.mem_cons_of_mem _ hk), fz, if_neg (h a List.mem_cons_self)]

structure Rel (c : Ck) (ps : List Part) (op kind : Int) (below : List Int) (o : Own) (under : Bool) : Prop where
  stack : c.stack = (below ++ o.l).map fz
  opens : c.opens = ps ++ [⟨op, kind, below.length, o.dead, under⟩]
  bad : c.bad = 0
  vals : ∀ k ∈ below ++ o.l, V k
  clean1 : under = false → ∀ k ∈ below, k ≠ 1
  clean2 : under = false → o.dead = false → ∀ k ∈ o.l, k ≠ 1
  first : ((ps ++ [(⟨op, kind, below.length, o.dead, under⟩ : Part)]).getD 0 zPart).op ≠ 3

theorem getD_last {α : Type} (l : List α) (a z : α) : (l ++ [a]).getD ((l ++ [a]).length - 1) z = a := by simp
theorem take_last {α : Type} (l : List α) (a : α) : (l ++ [a]).take ((l ++ [a]).length - 1) = l := by simp
theorem set_last {α : Type} (l : List α) (a b : α) : (l ++ [a]).set ((l ++ [a]).length - 1) b = l ++ [b] := by simp

section
variable {c : Ck} {ps : List Part} {op kind : Int} {below : List Int} {o : Own} {under : Bool}
theorem Rel.top (h : Rel c ps op kind below o under) : c.top = ⟨op, kind, below.length, o.dead, under⟩ := by
  unfold Ck.top; rw [h.opens, getD_last]
theorem Rel.shape (h : Rel c ps op kind below o under) : c.shape = if (o.dead || under) = true then ⟨true, []⟩ else ⟨false, below ++ o.l⟩ := by
  unfold Ck.shape
  rw [h.top]
  by_cases hd : (o.dead || under) = true
  · rw [if_pos hd, if_pos hd]
  · rw [if_neg hd, if_neg hd, h.stack, map_fz]
    simp only [Bool.or_eq_true, not_or, Bool.not_eq_true] at hd
    intro k hk
    rcases List.mem_append.1 hk with hk | hk
    · exact h.clean1 hd.2 k hk
    · exact h.clean2 hd.2 hd.1 k hk
theorem fail_bad {c : Ck} (h : c.bad = 0) (e : Int) : (c.fail e).bad = e := by unfold Ck.fail; rw [if_pos h]
theorem fail_keep {c : Ck} (h : c.bad ≠ 0) (e : Int) : c.fail e = c := by unfold Ck.fail; rw [if_neg h]
theorem pop_keep {c : Ck} (h : c.bad ≠ 0) (k : Int) : (c.pop k).bad = c.bad := by
  unfold Ck.pop
  have hi : c.init.bad = c.bad := rfl
  have hi' : c.init.fail 10 = c.init := fail_keep (by rw [hi]; exact h) 10
  repeat' split
  all_goals first | rfl | rw [fail_keep h] | rw [hi', hi]
theorem push_bad (c : Ck) (k : Int) : (c.push k).bad = c.bad := by unfold Ck.push; split <;> rfl
theorem gives_bad (l : List Int) : ∀ c : Ck, (c.gives l).bad = c.bad := by
  induction l with
  | nil => intro c; rfl
  | cons k l ih => intro c; exact (ih (c.push k)).trans (push_bad c k)
theorem takes_keep {c : Ck} (h : c.bad ≠ 0) (l : List Int) : (c.takes l).bad = c.bad := by
  induction l with
  | nil => rfl
  | cons k l ih =>
    show ((c.takes l).pop k).bad = c.bad
    rw [pop_keep (by rw [ih]; exact h), ih]
theorem die_bad (c : Ck) : c.die.bad = c.bad := rfl

theorem Rel.pop (h : Rel c ps op kind below o under) {k : Int} (hk : k = 64 ∨ V k) :
    (o.takeB k = true → Rel (c.pop (fz k)) ps op kind below (o.take k) under ∧ c.got (fz k) = fz (o.takeK k)) ∧ (o.takeB k = false → (c.pop (fz k)).bad = 10) := by
  have htop := h.top
  by_cases h64 : k = 64
  · subst h64
    have e : fz 64 = 64 := rfl
    refine ⟨fun _ => ?_, fun hb => ?_⟩
    · rw [e]; unfold Ck.pop Own.take Ck.got Own.takeK; rw [if_pos rfl, if_pos rfl, if_pos rfl, if_pos rfl]; exact ⟨h, rfl⟩
    · unfold Own.takeB at hb; rw [if_pos rfl] at hb; exact absurd hb (by decide)
  have hV : V k := hk.resolve_left h64
  have hf64 : fz k ≠ 64 := by
    unfold fz; unfold V at hV; split <;> omega
  obtain ⟨l, dead⟩ := o
  rcases List.eq_nil_or_concat l with rfl | ⟨l', g, rfl⟩
  · have hs : (c.stack.length : Int) = below.length := by rw [h.stack]; simp
    unfold Ck.pop Own.take Ck.got Own.takeK Own.takeB
    simp only [List.length_nil, if_true, if_neg h64, if_neg hf64, htop, if_pos hs]
    cases dead
    · refine ⟨fun hb => absurd hb (by decide), fun _ => ?_⟩
      rw [if_neg (by decide)]; exact fail_bad h.bad 10
    · refine ⟨fun _ => ?_, fun hb => absurd hb (by decide)⟩
      rw [if_pos rfl]; exact ⟨h, trivial⟩
  · rw [List.concat_eq_append] at h ⊢
    have hst : c.stack = (below ++ l').map fz ++ [fz g] := by rw [h.stack]; simp
    have hs : ¬ (c.stack.length : Int) = c.top.base := by rw [htop, hst]; simp; omega
    have hg : c.stack.getD (c.stack.length - 1) 0 = fz g := by rw [hst, getD_last]
    have hVg : V g := h.vals g (by simp)
    have hR : Rel c.init ps op kind below ⟨l', dead⟩ under := by
      refine ⟨?_, h.opens, h.bad, fun k hk => h.vals k ?_, h.clean1, fun a b k hk => h.clean2 a b k (by simp [hk]), h.first⟩
      · unfold Ck.init; rw [hst, take_last]
      · simp only [List.mem_append] at hk ⊢; rcases hk with hk | hk
        · exact .inl hk
        · exact .inr (.inl hk)
    have hlen : ¬ (l' ++ [g]).length = 0 := by simp
    have hlast : (l' ++ [g]).getD ((l' ++ [g]).length - 1) 0 = g := getD_last _ _ _
    have hpull : (⟨l' ++ [g], dead⟩ : Own).pull = ⟨l', dead⟩ := by unfold Own.pull; simp
    unfold Ck.pop Own.take Ck.got Own.takeK Own.takeB
    simp only [if_neg h64, if_neg hf64, if_neg hs, hg, if_neg hlen, hlast, hpull]
    by_cases hg1 : g = 1
    · subst hg1
      have e : fz 1 = 0 := rfl
      rw [if_pos e, if_pos e, if_pos rfl, if_pos rfl]
      exact ⟨fun _ => ⟨hR, rfl⟩, fun hb => absurd hb (by decide)⟩
    · have e : fz g = g := by unfold fz; rw [if_neg hg1]
      have hg0 : ¬ g = 0 := by unfold V at hVg; omega
      rw [e, if_neg hg0, if_neg hg0, if_neg hg1, if_neg hg1]
      by_cases hkg : k = 1 ∨ g = k
      · have hn : ¬ (fz k ≠ 0 ∧ g ≠ fz k) := by unfold fz; split <;> omega
        rw [decide_eq_true hkg, if_neg hn]
        exact ⟨fun _ => ⟨hR, e.symm⟩, fun hb => absurd hb (by decide)⟩
      · have hn : fz k ≠ 0 ∧ g ≠ fz k := by unfold fz; unfold V at hV; split <;> omega
        rw [decide_eq_false hkg, if_pos hn]
        exact ⟨fun hb => absurd hb (by decide), fun _ => fail_bad hR.bad 10⟩
theorem Rel.takeK (h : Rel c ps op kind below o under) {k : Int} (hk : k = 64 ∨ V k) : o.takeK k = 64 ∨ V (o.takeK k) := by
  unfold Own.takeK
  split
  · exact hk
  · split
    · exact hk
    · split
      · exact hk
      · rename_i h0 _
        refine .inr (h.vals _ (List.mem_append_right _ ?_))
        have hlt : o.l.length - 1 < o.l.length := by omega
        rw [List.getD_eq_getElem?_getD, List.getElem?_eq_getElem hlt, Option.getD_some]
        exact List.getElem_mem hlt
theorem Rel.takeOne (h : Rel c ps op kind below o under) {k : Int} (hb : o.takeB k = true) (h1 : o.takeK k = 1) : k = 1 ∧ (under = true ∨ o.dead = true) := by
  unfold Own.takeK at h1
  unfold Own.takeB at hb
  by_cases h64 : k = 64
  · rw [if_pos h64] at h1; omega
  rw [if_neg h64] at h1 hb
  by_cases h0 : o.l.length = 0
  · rw [if_pos h0] at h1 hb; exact ⟨h1, .inr hb⟩
  rw [if_neg h0] at h1 hb
  by_cases hg : o.l.getD (o.l.length - 1) 0 = 1
  · rw [if_pos hg] at h1
    refine ⟨h1, ?_⟩
    cases hu : under
    · cases hd : o.dead
      · exfalso
        have hlt : o.l.length - 1 < o.l.length := by omega
        refine h.clean2 hu hd _ ?_ hg
        rw [List.getD_eq_getElem?_getD, List.getElem?_eq_getElem hlt, Option.getD_some]
        exact List.getElem_mem hlt
      · exact .inr rfl
    · exact .inl rfl
  · rw [if_neg hg] at h1; exact absurd h1 hg
theorem take_dead (o : Own) (k : Int) : (o.take k).dead = o.dead := by unfold Own.take; (repeat' split) <;> rfl
theorem Rel.push (h : Rel c ps op kind below o under) {k : Int} (hk : k = 64 ∨ V k) (h1 : k = 1 → under = true ∨ o.dead = true) : Rel (c.push (fz k)) ps op kind below (o.give k) under := by
  by_cases h64 : k = 64
  · subst h64
    have e : fz 64 = 64 := rfl
    rw [e]; unfold Ck.push Own.give; rw [if_pos rfl, if_pos rfl]; exact h
  have hV : V k := hk.resolve_left h64
  have hf64 : fz k ≠ 64 := by
    unfold fz; unfold V at hV; split <;> omega
  unfold Ck.push Own.give
  rw [if_neg hf64, if_neg h64]
  refine ⟨by simp [h.stack], h.opens, h.bad, fun q hq => ?_, h.clean1, fun a b q hq => ?_, h.first⟩
  · simp only [List.mem_append, List.mem_singleton] at hq
    rcases hq with hq | hq | hq
    · exact h.vals q (by simp [hq])
    · exact h.vals q (by simp [hq])
    · subst hq; exact hV
  · simp only [List.mem_append, List.mem_singleton] at hq
    rcases hq with hq | hq
    · exact h.clean2 a b q hq
    · subst hq
      intro h2
      rcases h1 h2 with h3 | h3
      · rw [a] at h3; exact absurd h3 (by decide)
      · rw [b] at h3; exact absurd h3 (by decide)
theorem Rel.gives {l : List Int} (hl : ∀ k ∈ l, K2 k) : ∀ {c : Ck} {o : Own}, Rel c ps op kind below o under → Rel (c.gives l) ps op kind below (o.gives l) under := by
  induction l with
  | nil => intro c o h; exact h
  | cons k l ih =>
    intro c o h
    have hk := hl k List.mem_cons_self
    have := h.push (.inr hk.V) (fun e => by unfold K2 at hk; omega)
    rw [fz_K2 hk] at this
    exact ih (fun q hq => hl q (List.mem_cons_of_mem _ hq)) this
theorem takeAll_append (o : Own) (l r : List Int) : o.takeAll (l ++ r) = (o.takeAll r).takeAll l := by unfold Own.takeAll; rw [List.foldr_append]
theorem takeAllB_append (o : Own) (l r : List Int) : o.takeAllB (l ++ r) = (o.takeAllB r && (o.takeAll r).takeAllB l) := by
  induction l with
  | nil => simp [Own.takeAllB]
  | cons k l ih => rw [List.cons_append, Own.takeAllB, ih, takeAll_append, Own.takeAllB, Bool.and_assoc]
theorem Rel.takes (h : Rel c ps op kind below o under) {l : List Int} (hl : ∀ k ∈ l, K2 k) :
    (o.takeAllB l = true → Rel (c.takes l) ps op kind below (o.takeAll l) under) ∧ (o.takeAllB l = false → (c.takes l).bad = 10) := by
  induction l with
  | nil => exact ⟨fun _ => h, fun hb => absurd hb (by simp [Own.takeAllB])⟩
  | cons k l ih =>
    obtain ⟨i1, i2⟩ := ih fun q hq => hl q (List.mem_cons_of_mem _ hq)
    have hk := hl k List.mem_cons_self
    have e1 : c.takes (k :: l) = (c.takes l).pop k := rfl
    have e2 : o.takeAll (k :: l) = (o.takeAll l).take k := rfl
    rw [Own.takeAllB, e1, e2]
    cases hb : o.takeAllB l with
    | false =>
      refine ⟨fun q => absurd q (by simp), fun _ => ?_⟩
      have := i2 hb
      rw [pop_keep (by rw [this]; decide), this]
    | true =>
      have hr := (i1 hb).pop (.inr hk.V)
      rw [fz_K2 hk] at hr
      rw [Bool.true_and]
      exact ⟨fun q => (hr.1 q).1, hr.2⟩
theorem Rel.die (h : Rel c ps op kind below o under) : Rel c.die ps op kind below o.dies under := by
  have ht := h.top
  refine ⟨?_, ?_, h.bad, fun k hk => h.vals k ?_, h.clean1, fun _ hd => absurd hd (by simp [Own.dies]), ?_⟩
  · unfold Ck.die; rw [ht, h.stack]; simp [Own.dies]
  · unfold Ck.die; rw [ht, h.opens, set_last]; rfl
  · simp [Own.dies] at hk; simp [hk]
  · have := h.first
    cases ps with
    | nil => exact this
    | cons p ps => exact this
end

/-! ### ways -/
def labOf (p : Part) : Lab := ⟨p.kind, p.along⟩
theorem lab_at (ps : List Part) (i : Nat) (h : i < ps.length) : ((ps.map labOf).getD i zLab).along = (ps.getD i zPart).along := by
  simp [List.getD_eq_getElem?_getD, List.getElem?_map, h, labOf]
theorem out_ok {c : Ck} {n : Int} (h : n < c.opens.length) : c.out n = c := by unfold Ck.out; rw [if_neg (by omega)]
theorem out_bad {c : Ck} {n : Int} (h : (c.opens.length : Int) ≤ n) (hb : c.bad = 0) : (c.out n).bad = 8 := by unfold Ck.out; rw [if_pos h]; exact fail_bad hb 8
theorem out_keep {c : Ck} {n : Int} (hb : c.bad ≠ 0) : c.out n = c := by unfold Ck.out; split; exact fail_keep hb 8; rfl
theorem outs_keep {l : List Int} {c : Ck} (hb : c.bad ≠ 0) : c.outs l = c := by
  induction l with
  | nil => rfl
  | cons n l ih => show (c.out n).outs l = c; rw [out_keep hb]; exact ih
theorem outs_law {l : List Int} {c : Ck} (hb : c.bad = 0) : (l.any (fun k => decide ((c.opens.length : Int) ≤ k)) = true → (c.outs l).bad = 8) ∧ (l.any (fun k => decide ((c.opens.length : Int) ≤ k)) = false → c.outs l = c) := by
  induction l with
  | nil => exact ⟨fun h => absurd h (by simp), fun _ => rfl⟩
  | cons n l ih =>
    have e : c.outs (n :: l) = (c.out n).outs l := rfl
    by_cases hn : (c.opens.length : Int) ≤ n
    · refine ⟨fun _ => ?_, fun h => absurd h (by simp [hn])⟩
      have := out_bad hn hb
      rw [e, outs_keep (by rw [this]; decide), this]
    · rw [e, out_ok (by omega)]
      simp only [List.any_cons, decide_eq_false hn, Bool.false_or]
      exact ih
theorem out_opens (c : Ck) (n : Int) : (c.out n).opens = c.opens := by unfold Ck.out Ck.fail; (repeat' split) <;> rfl
theorem outP_ok {c : Ck} {n : Int} (h0 : 0 ≤ n) (h : n < c.opens.length) : (c.outP n).along = ((c.opens.map labOf).getD ((c.opens.length : Int) - 1 - n).toNat zLab).along := by
  unfold Ck.outP
  rw [if_neg (by omega), lab_at _ _ (by omega)]
  congr 2
  omega
end Trp

set_option linter.unusedVariables false
set_option linter.unusedSimpArgs false
namespace Trp

/-- a module whose kinds are kinds -/
structure ModGood (m : Mod) : Prop where
  sigs : ∀ s ∈ m.types, (∀ k ∈ s.ins, K2 k) ∧ (∀ k ∈ s.out, K2 k)
  globs : ∀ g ∈ m.globals, K2 g.kind
theorem ModGood.sig {m : Mod} (h : ModGood m) (i : Nat) : (∀ k ∈ (m.types.getD i zSig).ins, K2 k) ∧ (∀ k ∈ (m.types.getD i zSig).out, K2 k) := by
  rw [List.getD_eq_getElem?_getD]
  by_cases hi : i < m.types.length
  · rw [List.getElem?_eq_getElem hi]; exact h.sigs _ (List.getElem_mem hi)
  · rw [List.getElem?_eq_none (by omega)]; exact ⟨fun k hk => absurd hk (by simp [zSig]), fun k hk => absurd hk (by simp [zSig])⟩
theorem ModGood.of {m : Mod} (h : ModGood m) (n : Int) : (∀ k ∈ (sigOf m n).ins, K2 k) ∧ (∀ k ∈ (sigOf m n).out, K2 k) := by
  unfold sigOf
  split
  · exact h.sig _
  · exact ⟨fun k hk => absurd hk (by simp [zSig]), fun k hk => absurd hk (by simp [zSig])⟩

def opList : List Int := [0, 1, 2, 3, 4, 5, 11, 12, 13, 14, 15, 16, 17, 26, 27, 32, 33, 34, 35, 36]
instance (k : Int) : Decidable (K2 k) := by unfold K2; infer_instance
theorem ops_all : ∀ n : Fin 256, besides (n.val : Int) ≠ 0 → ((n.val : Int) ≤ 36 → (n.val : Int) ∈ opList) ∧ (∀ k ∈ plainIn (n.val : Int), K2 k) ∧ (∀ k ∈ plainOut (n.val : Int), K2 k) ∧
    ((n.val : Int) ≤ 36 → width (n.val : Int) = 0) ∧ (width (n.val : Int) = 0 ∨ width (n.val : Int) = 1 ∨ width (n.val : Int) = 2 ∨ width (n.val : Int) = 4 ∨ width (n.val : Int) = 8) ∧ (0 < width (n.val : Int) → besides (n.val : Int) = 6) := by decide +kernel
structure OpGood (op : Int) : Prop where
  low : op ≤ 36 → op ∈ opList
  ins : ∀ k ∈ plainIn op, K2 k
  out : ∀ k ∈ plainOut op, K2 k
  wlow : op ≤ 36 → width op = 0
  wid : width op = 0 ∨ width op = 1 ∨ width op = 2 ∨ width op = 4 ∨ width op = 8
  place : 0 < width op → besides op = 6
theorem opGood {op : Int} (h0 : 0 ≤ op) (h1 : op ≤ 255) (h : besides op ≠ 0) : OpGood op := by
  have := ops_all ⟨op.toNat, by omega⟩
  simp only [Int.toNat_of_nonneg h0] at this
  obtain ⟨a, b, c, d, e, f⟩ := this h
  exact ⟨a, b, c, d, e, f⟩

/-- what ins.Check's OK tells -/
structure XGood (x : Ins) : Prop where
  op0 : 0 ≤ x.op
  op1 : x.op ≤ 255
  ok : insCheck x = 0
theorem XGood.bes {x : Ins} (h : XGood x) : besides x.op ≠ 0 ∧ x.tos.length ≤ 16 ∧ (besides x.op ≠ 4 → x.tos = []) ∧ (besides x.op ≠ 6 → x.b = 0) ∧ insGoodA (besides x.op) x.a x.b = true ∧ (∀ n ∈ x.tos, 0 ≤ n ∧ n ≤ 4294967295) := by
  have h1 := h.ok
  unfold insCheck at h1
  by_cases c0 : besides x.op = 0
  · rw [if_pos c0] at h1; omega
  rw [if_neg c0] at h1
  by_cases c1 : 16 < x.tos.length
  · rw [if_pos c1] at h1; omega
  rw [if_neg c1] at h1
  by_cases c2 : (besides x.op ≠ 4 ∧ 0 < x.tos.length) ∨ (besides x.op ≠ 6 ∧ x.b ≠ 0)
  · rw [if_pos c2] at h1; omega
  rw [if_neg c2] at h1
  by_cases c3 : (insGoodA (besides x.op) x.a x.b && x.tos.all isIndex) = true
  · simp only [Bool.and_eq_true, List.all_eq_true] at c3
    refine ⟨c0, by omega, fun q => ?_, fun q => ?_, c3.1, fun n hn => ?_⟩
    · cases ht : x.tos with
      | nil => rfl
      | cons a l => exact absurd (.inl ⟨q, by rw [ht]; simp⟩) c2
    · by_cases hb : x.b = 0
      · exact hb
      · exact absurd (.inr ⟨q, hb⟩) c2
    · simpa [isIndex] using c3.2 n hn
  · rw [if_neg c3] at h1; omega

theorem besides_ways : besides 12 = 3 ∧ besides 13 = 3 ∧ besides 14 = 4 ∧ besides 15 = 1 ∧ besides 16 = 3 ∧ besides 17 = 5 ∧ besides 32 = 3 ∧ besides 33 = 3 ∧ besides 34 = 3 ∧ besides 35 = 3 ∧ besides 36 = 3 := by decide +kernel
theorem goodA_index {k a b : Int} (h : insGoodA k a b = true) (hk : k = 3 ∨ k = 4 ∨ k = 5 ∨ k = 6) : 0 ≤ a ∧ a ≤ 4294967295 := by
  unfold insGoodA at h
  rcases hk with rfl | rfl | rfl | rfl <;> simp [isIndex] at h
  all_goals omega

section
variable {c : Ck} {ps : List Part} {op kind : Int} {below : List Int} {o : Own} {under : Bool}
/-- the labels are those of the open parts -/
def LabsOf (labs : List Lab) (c : Ck) : Prop := labs = c.opens.map labOf ∧ ∀ p ∈ c.opens, K3 p.kind
theorem along_K3 {p : Part} (h : K3 p.kind) : K3 p.along := by unfold Part.along; split; exact .inl rfl; exact h
theorem LabsOf.len {labs : List Lab} (h : LabsOf labs c) : labs.length = c.opens.length := by rw [h.1]; simp
theorem outP_K3 {labs : List Lab} (h : LabsOf labs c) {n : Int} (h0 : 0 ≤ n) (h1 : n < c.opens.length) : K3 (c.outP n).along := by
  unfold Ck.outP
  rw [if_neg (by omega), List.getD_eq_getElem?_getD, List.getElem?_eq_getElem (by omega)]
  exact along_K3 (h.2 _ (List.getElem_mem _))
theorem any_last (l : List Int) (a n : Int) : (l ++ [a]).any (fun k => decide (n ≤ k)) = (decide (n ≤ a) || l.any (fun k => decide (n ≤ k))) := by
  simp [List.any_append, Bool.or_comm]

def Stepped (c' : Ck) (ps : List Part) (op kind : Int) (below : List Int) (under : Bool) (r : Own × Int) : Prop :=
  (r.2 = 0 → Rel c' ps op kind below r.1 under) ∧ (r.2 ≠ 0 → c'.bad = r.2)
theorem stepped_ite {c' : Ck} {o' : Own} {b : Bool} (h1 : b = true → Rel c' ps op kind below o' under) (h2 : b = false → c'.bad = 10) : Stepped c' ps op kind below under (o', if b = true then 0 else 10) := by
  cases b
  · exact ⟨fun h => absurd (show (10 : Int) = 0 from h) (by decide), fun _ => h2 rfl⟩
  · exact ⟨fun _ => h1 rfl, fun h => absurd rfl h⟩

theorem step_br {labs : List Lab} {x : Ins} (h : Rel c ps op kind below o under) (hl : LabsOf labs c) (hx : XGood x) (ho : x.op = 12) : Stepped (c.way x.a).die ps op kind below under (rWay labs o x) := by
  obtain ⟨_, _, ht, _, hA, _⟩ := hx.bes
  rw [ho, besides_ways.1] at hA ht
  have ha := goodA_index hA (.inl rfl)
  have htos := ht (by decide)
  unfold rWay wayBad
  have hw : wayA labs.length x = x.a := by unfold wayA; rw [if_neg (by omega)]
  rw [htos, hw, hl.len]
  simp only [List.nil_append, List.any_cons, List.any_nil, Bool.or_false]
  by_cases hn : (c.opens.length : Int) ≤ x.a
  · rw [if_pos (by simpa using hn)]
    refine ⟨fun q => absurd q (by simp), fun _ => ?_⟩
    rw [die_bad]; unfold Ck.way
    have := out_bad hn h.bad
    rw [if_neg (by rw [this]; decide), this]
  · rw [if_neg (by simpa using hn)]
    have hal : wayAlong labs x = (c.outP x.a).along := by
      unfold wayAlong; rw [hw, hl.len, outP_ok ha.1 (by omega), hl.1]
    have hsame : waySame labs x = true := by unfold waySame; rw [htos]; rfl
    have hk := outP_K3 hl ha.1 (by omega : x.a < c.opens.length)
    rw [hal, hsame]
    simp only [ho, Int.reduceEq, or_self, if_false, Bool.and_self, Bool.true_and]
    have hp := h.pop (k := (c.outP x.a).along) (by unfold K3 at hk; unfold V; omega)
    rw [fz_K3 hk] at hp
    have hway : c.way x.a = c.pop (c.outP x.a).along := by unfold Ck.way; rw [out_ok (by omega), if_pos h.bad]
    rw [hway]
    exact stepped_ite (fun q => (hp.1 q).1.die) hp.2

theorem step_brif {labs : List Lab} {x : Ins} (h : Rel c ps op kind below o under) (hl : LabsOf labs c) (hx : XGood x) (ho : x.op = 13) : Stepped (c.brIf x.a) ps op kind below under (rWay labs o x) := by
  obtain ⟨_, _, ht, _, hA, _⟩ := hx.bes
  rw [ho, besides_ways.2.1] at hA ht
  have ha := goodA_index hA (.inl rfl)
  have htos := ht (by decide)
  unfold rWay wayBad
  have hw : wayA labs.length x = x.a := by unfold wayA; rw [if_neg (by omega)]
  rw [htos, hw, hl.len]
  simp only [List.nil_append, List.any_cons, List.any_nil, Bool.or_false]
  by_cases hn : (c.opens.length : Int) ≤ x.a
  · rw [if_pos (by simpa using hn)]
    refine ⟨fun q => absurd q (by simp), fun _ => ?_⟩
    unfold Ck.brIf
    have := out_bad hn h.bad
    rw [if_neg (by rw [this]; decide), this]
  · rw [if_neg (by simpa using hn)]
    have hal : wayAlong labs x = (c.outP x.a).along := by
      unfold wayAlong; rw [hw, hl.len, outP_ok ha.1 (by omega), hl.1]
    have hsame : waySame labs x = true := by unfold waySame; rw [htos]; rfl
    have hk := outP_K3 hl ha.1 (by omega : x.a < c.opens.length)
    rw [hal, hsame]
    simp only [ho, Int.reduceEq, true_or, if_true, Bool.true_and]
    have hV : (c.outP x.a).along = 64 ∨ V (c.outP x.a).along := by unfold K3 at hk; unfold V; omega
    have h1 := h.pop (k := 127) (.inr (by unfold V; omega))
    rw [fz_K2 (.inr rfl)] at h1
    have hway : c.brIf x.a = ((c.pop 127).pop (c.outP x.a).along).push (c.outP x.a).along := by unfold Ck.brIf; rw [out_ok (by omega), if_pos h.bad]
    rw [hway]
    refine stepped_ite (fun q => ?_) (fun q => ?_)
    · rw [Bool.and_eq_true] at q
      have r1 := (h1.1 q.1).1
      have h2 := r1.pop hV
      rw [fz_K3 hk] at h2
      have r2 := (h2.1 q.2).1
      have := r2.push hV (fun e => by unfold K3 at hk; omega)
      rw [fz_K3 hk] at this
      exact this
    · rw [push_bad]
      cases q1 : o.takeB 127 with
      | false =>
        have := h1.2 q1
        rw [pop_keep (by rw [this]; decide), this]
      | true =>
        rw [q1, Bool.true_and] at q
        have h2 := (h1.1 q1).1.pop hV
        rw [fz_K3 hk] at h2
        exact h2.2 q

theorem sames_law {labs : List Lab} {x : Ins} (hl : LabsOf labs c) (hw : wayAlong labs x = (c.outP x.a).along) (hin : ∀ n ∈ x.tos, 0 ≤ n ∧ n < c.opens.length) :
    c.sames (c.outP x.a).along x.tos = waySame labs x := by
  unfold Ck.sames waySame
  rw [hw, hl.len]
  generalize (c.outP x.a).along = k
  have : ∀ t : List Int, (∀ n ∈ t, 0 ≤ n ∧ n < c.opens.length) → (t.all fun n => decide ((c.outP n).along = k)) = t.all fun q => decide ((labs.getD ((c.opens.length : Int) - 1 - q).toNat zLab).along = k) := by
    intro t
    induction t with
    | nil => intro _; rfl
    | cons n t ih =>
      intro hq
      have hn := hq n List.mem_cons_self
      rw [List.all_cons, List.all_cons, ih fun q hq' => hq q (List.mem_cons_of_mem _ hq'), outP_ok hn.1 hn.2, hl.1]
  exact this x.tos hin

theorem step_table {labs : List Lab} {x : Ins} (h : Rel c ps op kind below o under) (hl : LabsOf labs c) (hx : XGood x) (ho : x.op = 14) : Stepped (c.table x.a x.tos).die ps op kind below under (rWay labs o x) := by
  obtain ⟨_, _, _, _, hA, hto⟩ := hx.bes
  rw [ho, besides_ways.2.2.1] at hA
  have ha := goodA_index hA (.inr (.inl rfl))
  unfold rWay wayBad
  have hw : wayA labs.length x = x.a := by unfold wayA; rw [if_neg (by omega)]
  rw [hw, hl.len, any_last]
  have hou := outs_law (l := x.tos) h.bad
  by_cases hn : (c.opens.length : Int) ≤ x.a
  · rw [if_pos (by simp [hn])]
    refine ⟨fun q => absurd q (by simp), fun _ => ?_⟩
    have := out_bad hn h.bad
    rw [die_bad]; unfold Ck.table
    rw [outs_keep (by rw [this]; decide), if_pos (by rw [this]; decide), this]
  · rw [decide_eq_false hn, Bool.false_or]
    have hout : c.out x.a = c := out_ok (by omega)
    cases hany : x.tos.any (fun k => decide ((c.opens.length : Int) ≤ k)) with
    | true =>
      rw [if_pos rfl]
      refine ⟨fun q => absurd q (by simp), fun _ => ?_⟩
      have := hou.1 hany
      rw [die_bad]; unfold Ck.table
      rw [hout, if_pos (by rw [this]; decide), this]
    | false =>
      have hin : ∀ n ∈ x.tos, 0 ≤ n ∧ n < c.opens.length := by
        intro n hn'
        have := List.any_eq_false.1 hany n hn'
        simp at this
        exact ⟨(hto n hn').1, by omega⟩
      rw [if_neg (by decide)]
      have hal : wayAlong labs x = (c.outP x.a).along := by
        unfold wayAlong; rw [hw, hl.len, outP_ok ha.1 (by omega), hl.1]
      have hsam := sames_law hl hal hin
      have hk := outP_K3 hl ha.1 (by omega : x.a < c.opens.length)
      have hV : (c.outP x.a).along = 64 ∨ V (c.outP x.a).along := by unfold K3 at hk; unfold V; omega
      have htab : c.table x.a x.tos = ((if waySame labs x = true then c else c.fail 10).pop 127).pop (c.outP x.a).along := by
        unfold Ck.table; rw [hout, hou.2 hany, if_neg (fun q => q h.bad), hsam]
      rw [hal, htab]
      simp only [ho, Int.reduceEq, or_true, if_true, if_false]
      cases hs : waySame labs x with
      | false =>
        rw [Bool.false_and, Bool.false_and]
        refine stepped_ite (fun q => absurd q (by decide)) (fun _ => ?_)
        have := fail_bad h.bad 10
        rw [die_bad, if_neg (by decide), pop_keep, pop_keep, this]
        · rw [this]; decide
        · rw [pop_keep (by rw [this]; decide), this]; decide
      | true =>
        rw [if_pos rfl, Bool.true_and]
        have h1 := h.pop (k := 127) (.inr (by unfold V; omega))
        rw [fz_K2 (.inr rfl)] at h1
        refine stepped_ite (fun q => ?_) (fun q => ?_)
        · rw [Bool.and_eq_true] at q
          have h2 := (h1.1 q.1).1.pop hV
          rw [fz_K3 hk] at h2
          exact (h2.1 q.2).1.die
        · rw [die_bad]
          cases q1 : o.takeB 127 with
          | false =>
            have := h1.2 q1
            rw [pop_keep (by rw [this]; decide), this]
          | true =>
            rw [q1, Bool.true_and] at q
            have h2 := (h1.1 q1).1.pop hV
            rw [fz_K3 hk] at h2
            exact h2.2 q

theorem step_return {labs : List Lab} {x : Ins} (h : Rel c ps op kind below o under) (hl : LabsOf labs c) (hx : XGood x) (ho : x.op = 15) : Stepped (c.pop (c.opens.getD 0 zPart).kind).die ps op kind below under (rWay labs o x) := by
  obtain ⟨_, _, ht, _, _, _⟩ := hx.bes
  rw [ho, besides_ways.2.2.2.1] at ht
  have htos := ht (by decide)
  have hlen : 0 < c.opens.length := by rw [h.opens]; simp
  unfold rWay wayBad
  have hw : wayA labs.length x = (labs.length : Int) - 1 := by unfold wayA; rw [if_pos ho]
  rw [htos, hw]
  simp only [List.nil_append, List.any_cons, List.any_nil, Bool.or_false]
  rw [if_neg (by simp; omega)]
  have hk0 : K3 (c.opens.getD 0 zPart).kind := by
    rw [List.getD_eq_getElem?_getD, List.getElem?_eq_getElem hlen]; exact hl.2 _ (List.getElem_mem _)
  have hf := h.first
  rw [← h.opens] at hf
  have hal : wayAlong labs x = (c.opens.getD 0 zPart).kind := by
    unfold wayAlong
    rw [hw, show ((labs.length : Int) - 1 - ((labs.length : Int) - 1)).toNat = 0 by omega, hl.1, lab_at _ _ hlen]
    unfold Part.along; rw [if_neg hf]
  have hsame : waySame labs x = true := by unfold waySame; rw [htos]; rfl
  rw [hal, hsame]
  simp only [ho, Int.reduceEq, or_self, if_false, Bool.and_self, Bool.true_and]
  have hp := h.pop (k := (c.opens.getD 0 zPart).kind) (by unfold K3 at hk0; unfold V; omega)
  rw [fz_K3 hk0] at hp
  exact stepped_ite (fun q => (hp.1 q).1.die) hp.2

theorem step_sig {m : Mod} {loc : List Int} {x : Ins} {ins out : List Int} (h : Rel c ps op kind below o under) (h27 : x.op ≠ 27) (hs : rSig m loc x = (ins, out, 0)) (hi : ∀ k ∈ ins, K2 k) (ho : ∀ k ∈ out, K2 k) :
    Stepped ((c.takes ins).gives out) ps op kind below under (rPlain m loc o x) := by
  unfold rPlain
  rw [if_neg h27, hs]
  simp only [ne_eq, not_true_eq_false, if_false]
  have ht := h.takes hi
  exact stepped_ite (fun q => Rel.gives ho (ht.1 q)) (fun q => by rw [gives_bad]; exact ht.2 q)
theorem step_err {m : Mod} {loc : List Int} {x : Ins} {e : Int} (h : Rel c ps op kind below o under) (h27 : x.op ≠ 27) (he : e ≠ 0) (hs : rSig m loc x = ([], [], e)) :
    Stepped (c.fail e) ps op kind below under (rPlain m loc o x) := by
  unfold rPlain
  rw [if_neg h27, hs]
  simp only [ne_eq, he, not_false_eq_true, if_true]
  exact ⟨fun q => absurd q he, fun _ => fail_bad h.bad e⟩

theorem step_call {m : Mod} {loc : List Int} {x : Ins} (hm : ModGood m) (h : Rel c ps op kind below o under) (ho : x.op = 16 ∨ x.op = 17) : Stepped (c.call m x) ps op kind below under (rPlain m loc o x) := by
  unfold Ck.call
  rcases ho with ho | ho
  · rw [if_pos ho]
    have hs : rSig m loc x = if sigIs m x.a = true then ((sigOf m x.a).ins, (sigOf m x.a).out, 0) else ([], [], 8) := by
      unfold rSig; rw [if_neg (by omega), if_pos ho]
    cases hi : sigIs m x.a with
    | false =>
      rw [hi, if_neg (by decide)] at hs
      rw [if_pos rfl]; exact step_err h (by omega) (by decide) hs
    | true =>
      rw [hi, if_pos rfl] at hs
      rw [if_neg (by decide)]; exact step_sig h (by omega) hs (hm.of _).1 (hm.of _).2
  · rw [if_neg (by omega)]
    have hs : rSig m loc x = if m.table = 0 ∨ (m.types.length : Int) ≤ x.a then ([], [], 8) else ((m.types.getD x.a.toNat zSig).ins ++ [127], (m.types.getD x.a.toNat zSig).out, 0) := by
      unfold rSig; rw [if_neg (by omega), if_neg (by omega), if_pos ho]
    by_cases hb : m.table = 0 ∨ (m.types.length : Int) ≤ x.a
    · rw [if_pos hb] at hs
      rw [if_pos hb]; exact step_err h (by omega) (by decide) hs
    · rw [if_neg hb] at hs
      rw [if_neg hb]
      have e : (c.pop 127).takes (m.types.getD x.a.toNat zSig).ins = c.takes ((m.types.getD x.a.toNat zSig).ins ++ [127]) := by
        unfold Ck.takes; rw [List.foldr_append]; rfl
      rw [e]
      refine step_sig h (by omega) hs (fun k hk => ?_) (hm.sig _).2
      rcases List.mem_append.1 hk with hk | hk
      · exact (hm.sig _).1 k hk
      · rw [List.mem_singleton.1 hk]; exact .inr rfl

theorem step_value {m : Mod} {loc : List Int} {x : Ins} (hm : ModGood m) (hloc : ∀ k ∈ loc, K2 k) (h : Rel c ps op kind below o under) (hx : XGood x) (ho : 32 ≤ x.op ∧ x.op ≤ 36) : Stepped (c.value m loc x) ps op kind below under (rPlain m loc o x) := by
  have ha : 0 ≤ x.a := by
    obtain ⟨_, _, _, _, hA, _⟩ := hx.bes
    have hb := besides_ways
    have : besides x.op = 3 := by
      obtain e | e | e | e | e : x.op = 32 ∨ x.op = 33 ∨ x.op = 34 ∨ x.op = 35 ∨ x.op = 36 := by omega
      · rw [e]; exact hb.2.2.2.2.2.2.1
      · rw [e]; exact hb.2.2.2.2.2.2.2.1
      · rw [e]; exact hb.2.2.2.2.2.2.2.2.1
      · rw [e]; exact hb.2.2.2.2.2.2.2.2.2.1
      · rw [e]; exact hb.2.2.2.2.2.2.2.2.2.2
    rw [this] at hA
    exact (goodA_index hA (.inl rfl)).1
  unfold Ck.value
  by_cases h35 : x.op < 35
  · rw [if_pos h35]
    have hs : rSig m loc x = if (loc.length : Int) ≤ x.a then ([], [], 8) else (if x.op = 32 then [] else [loc.getD x.a.toNat 0], if x.op = 33 then [] else [loc.getD x.a.toNat 0], 0) := by
      unfold rSig; rw [if_neg (by omega), if_neg (by omega), if_neg (by omega), if_neg (by omega), if_pos (by omega)]
    by_cases hn : (loc.length : Int) ≤ x.a
    · rw [if_pos hn] at hs ⊢; exact step_err h (by omega) (by decide) hs
    · rw [if_neg hn] at hs ⊢
      have hk : K2 (loc.getD x.a.toNat 0) := by
        have hlt : x.a.toNat < loc.length := by omega
        rw [List.getD_eq_getElem?_getD, List.getElem?_eq_getElem hlt]; exact hloc _ (List.getElem_mem hlt)
      generalize loc.getD x.a.toNat 0 = k at *
      have one : ∀ q ∈ [k], K2 q := fun q hq => by rw [List.mem_singleton.1 hq]; exact hk
      unfold Ck.local1
      by_cases c32 : x.op = 32
      · rw [if_pos c32, if_neg (by omega)] at hs
        rw [if_pos c32]
        exact step_sig h (by omega) hs (fun q hq => absurd hq (by simp)) one
      · rw [if_neg c32] at hs ⊢
        by_cases c33 : x.op = 33
        · rw [if_pos c33] at hs ⊢
          exact step_sig h (by omega) hs one (fun q hq => absurd hq (by simp))
        · rw [if_neg c33] at hs ⊢
          exact step_sig h (by omega) hs one one
  · rw [if_neg h35]
    have hs : rSig m loc x = if (m.globals.length : Int) ≤ x.a then ([], [], 8)
        else if x.op = 36 ∧ (m.globals.getD x.a.toNat zGlo).mu = false then ([], [], 10)
        else (if x.op = 35 then [] else [(m.globals.getD x.a.toNat zGlo).kind], if x.op = 35 then [(m.globals.getD x.a.toNat zGlo).kind] else [], 0) := by
      unfold rSig; rw [if_neg (by omega), if_neg (by omega), if_neg (by omega), if_neg (by omega), if_neg (by omega), if_pos (by omega)]
    by_cases hn : (m.globals.length : Int) ≤ x.a
    · rw [if_pos hn] at hs ⊢; exact step_err h (by omega) (by decide) hs
    · rw [if_neg hn] at hs ⊢
      have hk : K2 (m.globals.getD x.a.toNat zGlo).kind := by
        have hlt : x.a.toNat < m.globals.length := by omega
        rw [List.getD_eq_getElem?_getD, List.getElem?_eq_getElem hlt]; exact hm.globs _ (List.getElem_mem hlt)
      generalize m.globals.getD x.a.toNat zGlo = g at *
      have one : ∀ q ∈ [g.kind], K2 q := fun q hq => by rw [List.mem_singleton.1 hq]; exact hk
      by_cases c35 : x.op = 35
      · rw [if_neg (by omega), if_pos c35, if_pos c35] at hs
        rw [if_pos c35]
        exact step_sig h (by omega) hs (fun q hq => absurd hq (by simp)) one
      · rw [if_neg c35, if_neg c35] at hs
        rw [if_neg c35]
        cases hmu : g.mu with
        | false =>
          rw [if_pos ⟨by omega, hmu⟩] at hs
          rw [if_neg (by decide)]
          have := step_err h (by omega) (by decide) hs
          refine ⟨fun q => ?_, fun q => ?_⟩
          · have h2 := this.2
            exfalso
            unfold rPlain at q; rw [if_neg (by omega), hs] at q; simp at q
          · have h2 := this.2 q
            have hb := fail_bad h.bad 10
            rw [pop_keep (by rw [hb]; decide)]; exact h2
        | true =>
          rw [if_neg (by simp [hmu])] at hs
          rw [if_pos rfl]
          exact step_sig h (by omega) hs one (fun q hq => absurd hq (by simp))

theorem step_drop {m : Mod} {loc : List Int} {x : Ins} (h : Rel c ps op kind below o under) (ho : x.op = 26) : Stepped (c.pop 0) ps op kind below under (rPlain m loc o x) := by
  have hs : rSig m loc x = ([1], [], 0) := by unfold rSig; rw [if_neg (by omega), if_neg (by omega), if_neg (by omega), if_pos ho]
  unfold rPlain
  rw [if_neg (by omega), hs]
  simp only [ne_eq, not_true_eq_false, if_false]
  have hp := h.pop (k := 1) (.inr (.inl rfl))
  have e : fz 1 = 0 := rfl
  rw [e] at hp
  have e1 : o.takeAllB [1] = o.takeB 1 := by simp [Own.takeAllB, Own.takeAll]
  rw [e1]
  exact stepped_ite (fun q => (hp.1 q).1) hp.2

theorem step_choose {m : Mod} {loc : List Int} {x : Ins} (h : Rel c ps op kind below o under) (ho : x.op = 27) : Stepped c.choose ps op kind below under (rPlain m loc o x) := by
  unfold rPlain
  rw [if_pos ho]
  unfold Ck.choose
  have h1 := h.pop (k := 127) (.inr (.inr (.inr rfl)))
  rw [fz_K2 (.inr rfl)] at h1
  refine stepped_ite (fun q => ?_) (fun q => ?_)
  · simp only [Bool.and_eq_true] at q
    obtain ⟨⟨q1, q2⟩, q3⟩ := q
    have r1 := (h1.1 q1).1
    have h2 := r1.pop (k := 1) (.inr (.inl rfl))
    have e : fz 1 = 0 := rfl
    rw [e] at h2
    obtain ⟨r2, g2⟩ := h2.1 q2
    have hv1 := r1.takeK (k := 1) (.inr (.inl rfl))
    rw [g2]
    have h3 := r2.pop hv1
    obtain ⟨r3, g3⟩ := h3.1 q3
    rw [g3]
    refine r3.push (r2.takeK hv1) fun e1 => ?_
    have t2 := r2.takeOne q3 e1
    have := t2.2
    rw [take_dead]
    exact this
  · rw [push_bad]
    cases q1 : o.takeB 127 with
    | false =>
      have := h1.2 q1
      rw [pop_keep, pop_keep, this]
      · rw [this]; decide
      · rw [pop_keep (by rw [this]; decide), this]; decide
    | true =>
      have r1 := (h1.1 q1).1
      have h2 := r1.pop (k := 1) (.inr (.inl rfl))
      have e : fz 1 = 0 := rfl
      rw [e] at h2
      cases q2 : (o.take 127).takeB 1 with
      | false =>
        have := h2.2 q2
        rw [pop_keep (by rw [this]; decide), this]
      | true =>
        rw [q1, q2, Bool.true_and, Bool.true_and] at q
        obtain ⟨r2, g2⟩ := h2.1 q2
        have hv1 := r1.takeK (k := 1) (.inr (.inl rfl))
        rw [g2]
        exact (r2.pop hv1).2 q

theorem wide_max {w a : Int} (hw : w = 1 ∨ w = 2 ∨ w = 4 ∨ w = 8) (ha : 0 ≤ a) : Ck.wideA w a = decide (maxA w < a) := by
  unfold Ck.wideA
  by_cases h3 : 3 < a
  · have : maxA w < a := by unfold maxA; repeat' split
                            all_goals omega
    rw [decide_eq_true h3, decide_eq_true this]; rfl
  · obtain e | e | e | e : a = 0 ∨ a = 1 ∨ a = 2 ∨ a = 3 := by omega
    all_goals
      subst e
      rcases hw with rfl | rfl | rfl | rfl <;> decide
theorem step_other {m : Mod} {loc : List Int} {x : Ins} (h : Rel c ps op kind below o under) (hx : XGood x) (ho : 36 < x.op) : Stepped (c.plain m x) ps op kind below under (rPlain m loc o x) := by
  obtain ⟨hb, _, _, _, hA, _⟩ := hx.bes
  have hg := opGood hx.op0 hx.op1 hb
  have hs : rSig m loc x = if (0 < width x.op ∨ x.op = 63 ∨ x.op = 64) ∧ m.most = 0 then ([], [], 8)
      else if 0 < width x.op ∧ maxA (width x.op) < x.a then ([], [], 9) else (plainIn x.op, plainOut x.op, 0) := by
    unfold rSig
    rw [if_neg (by omega), if_neg (by omega), if_neg (by omega), if_neg (by omega), if_neg (by omega), if_neg (by omega)]
  unfold Ck.plain
  by_cases c1 : (0 < width x.op ∨ x.op = 63 ∨ x.op = 64) ∧ m.most = 0
  · rw [if_pos c1] at hs
    rw [if_pos ⟨c1.2, c1.1⟩]
    exact step_err h (by omega) (by decide) hs
  · rw [if_neg c1] at hs
    rw [if_neg (fun q => c1 ⟨q.2, q.1⟩)]
    by_cases c2 : 0 < width x.op ∧ maxA (width x.op) < x.a
    · have hw := hg.wid
      rw [hg.place c2.1] at hA
      have ha := goodA_index hA (.inr (.inr (.inr rfl)))
      rw [if_pos c2] at hs
      rw [if_pos ⟨c2.1, by rw [wide_max (by omega) ha.1]; exact decide_eq_true c2.2⟩]
      exact step_err h (by omega) (by decide) hs
    · rw [if_neg c2] at hs
      have : ¬ (0 < width x.op ∧ Ck.wideA (width x.op) x.a = true) := by
        intro q
        have hw := hg.wid
        rw [hg.place q.1] at hA
        have ha := goodA_index hA (.inr (.inr (.inr rfl)))
        rw [wide_max (by omega) ha.1] at q
        exact c2 ⟨q.1, by simpa using q.2⟩
      rw [if_neg this]
      exact step_sig h (by omega) hs hg.ins hg.out

theorem step_simple {m : Mod} {loc : List Int} {labs : List Lab} {x : Ins} (hm : ModGood m) (hloc : ∀ k ∈ loc, K2 k) (h : Rel c ps op kind below o under) (hl : LabsOf labs c) (hx : XGood x) (hn : ¬ (x.op = 5 ∨ x.op = 11)) (hb : isBlk x.op = false) :
    Stepped (c.one m loc x) ps op kind below under (rSimple m loc labs o x) := by
  have hg := opGood hx.op0 hx.op1 hx.bes.1
  unfold isBlk at hb
  rw [decide_eq_false_iff_not] at hb
  unfold Ck.one rSimple
  by_cases h1 : x.op = 1
  · rw [if_pos h1, if_neg (by omega), if_neg (by omega)]
    have hs : rSig m loc x = ([], [], 0) := by unfold rSig; rw [if_pos h1]
    exact step_sig h (by omega) hs (fun q hq => absurd hq (by simp)) (fun q hq => absurd hq (by simp))
  rw [if_neg h1]
  by_cases h15 : x.op ≤ 15
  · rw [if_pos h15]
    have hlow := hg.low (by omega)
    simp only [opList, List.mem_cons, List.mem_nil_iff, or_false] at hlow
    unfold Ck.control
    obtain e | e | e | e | e : x.op = 0 ∨ x.op = 12 ∨ x.op = 13 ∨ x.op = 14 ∨ x.op = 15 := by omega
    · rw [if_pos e, if_pos e]; exact ⟨fun _ => h.die, fun q => absurd rfl q⟩
    · rw [if_neg (by omega), if_neg (by omega), if_neg (by omega), if_neg (by omega), if_neg (by omega), if_pos e, if_neg (by omega), if_pos (by omega)]
      exact step_br h hl hx e
    · rw [if_neg (by omega), if_neg (by omega), if_neg (by omega), if_neg (by omega), if_neg (by omega), if_neg (by omega), if_pos e, if_neg (by omega), if_pos (by omega)]
      exact step_brif h hl hx e
    · rw [if_neg (by omega), if_neg (by omega), if_neg (by omega), if_neg (by omega), if_neg (by omega), if_neg (by omega), if_neg (by omega), if_neg (by omega), if_pos e, if_neg (by omega), if_pos (by omega)]
      exact step_table h hl hx e
    · rw [if_neg (by omega), if_neg (by omega), if_neg (by omega), if_neg (by omega), if_neg (by omega), if_neg (by omega), if_neg (by omega), if_pos e, if_neg (by omega), if_pos (by omega)]
      exact step_return h hl hx e
  rw [if_neg h15, if_neg (by omega : ¬ x.op = 0), if_neg (by omega : ¬ (12 ≤ x.op ∧ x.op ≤ 15))]
  by_cases h17 : x.op ≤ 17
  · rw [if_pos h17]; exact step_call hm h (by omega)
  rw [if_neg h17]
  by_cases h26 : x.op = 26
  · rw [if_pos h26]; exact step_drop h h26
  rw [if_neg h26]
  by_cases h27 : x.op = 27
  · rw [if_pos h27]; exact step_choose h h27
  rw [if_neg h27]
  by_cases h36 : x.op ≤ 36
  · have hlow := hg.low (by omega)
    simp only [opList, List.mem_cons, List.mem_nil_iff, or_false] at hlow
    rw [if_pos h36]; exact step_value hm hloc h hx (by omega)
  rw [if_neg h36]; exact step_other h hx (by omega)
end
end Trp

set_option linter.unusedVariables false
set_option linter.unusedSimpArgs false
namespace Trp

section
variable {m : Mod} {loc : List Int} {l : List Ins} {E L : List Int}
theorem rRow_bad (f i to : Nat) (labs : List Lab) (below : List Int) (under : Bool) (o : Own) (t : Ty) (h : t.bad ≠ 0) : rRow m loc l E L f i to labs below under o t = (o, t) := by
  cases f with
  | zero => rfl
  | succ f => rw [rRow, if_neg (fun q => h q.2)]
theorem rRow_end (f i : Nat) (labs : List Lab) (below : List Int) (under : Bool) (o : Own) (t : Ty) : rRow m loc l E L f i i labs below under o t = (o, t) := by
  cases f with
  | zero => rfl
  | succ f => rw [rRow, if_neg (fun q => absurd q.1 (Nat.lt_irrefl _))]
theorem ty_fail {t : Ty} (h : t.bad = 0) (i e : Int) : t.fail i e = ⟨t.shapes, i, e⟩ := by unfold Ty.fail; rw [if_pos h]
theorem ty_keep {t : Ty} (h : t.bad ≠ 0) (i e : Int) : t.fail i e = t := by unfold Ty.fail; rw [if_neg h]

theorem vGo_step {i : Nat} (h : i < l.length) (c : Ck) (sh : List Shp) (hb : (c.one m loc (l.getD i zIns)).bad = 0) :
    vGo m loc (l.drop i) i c sh = vGo m loc (l.drop (i + 1)) (i + 1) (c.one m loc (l.getD i zIns)) (sh.set i c.shape) := by
  rw [drop_cons l i h, vGo, if_neg (fun q => q hb)]
theorem vGo_fail {i : Nat} (h : i < l.length) (c : Ck) (sh : List Shp) (hb : (c.one m loc (l.getD i zIns)).bad ≠ 0) :
    vGo m loc (l.drop i) i c sh = ((i : Int), (c.one m loc (l.getD i zIns)).bad, sh.set i c.shape) := by
  rw [drop_cons l i h, vGo, if_pos hb]

/-- what a row comes to, told of the program's run -/
structure Rowed (m : Mod) (loc : List Int) (l : List Ins) (ps : List Part) (op kind : Int) (below : List Int) (under : Bool) (i j : Nat) (c : Ck) (t : Ty) (r : Own × Ty) : Prop where
  good : r.2.bad = 0 → r.2.pos = t.pos ∧ ∃ c', Rel c' ps op kind below r.1 under ∧ vGo m loc (l.drop i) i c t.shapes = vGo m loc (l.drop j) j c' r.2.shapes
  bad : r.2.bad ≠ 0 → vGo m loc (l.drop i) i c t.shapes = (r.2.pos, r.2.bad, r.2.shapes)

variable {c : Ck} {ps : List Part} {op kind : Int} {below : List Int} {o : Own} {under : Bool}
theorem close_rel (h : Rel c ps op kind below o under) (hk : K3 kind) :
    (o.closes kind = true → Rel c.close ps op kind below ⟨[], o.dead⟩ under) ∧ (o.closes kind = false → c.close.bad = 10) := by
  have hV : kind = 64 ∨ V kind := by unfold K3 at hk; unfold V; omega
  have hp := h.pop hV
  rw [fz_K3 hk] at hp
  unfold Own.closes Ck.close
  rw [h.top]
  cases hb : o.takeB kind with
  | false =>
    refine ⟨fun q => absurd q (by simp), fun _ => ?_⟩
    have := hp.2 hb
    split
    · exact this
    · rw [fail_keep (by rw [this]; decide), this]
  | true =>
    obtain ⟨r1, _⟩ := hp.1 hb
    have hlen : ((c.pop kind).stack.length : Int) = below.length + (o.take kind).l.length := by rw [r1.stack]; simp
    rw [Bool.true_and]
    by_cases hz : (o.take kind).l.length = 0
    · rw [if_pos (by show _ = (below.length : Int); rw [hlen, hz]; simp)]
      refine ⟨fun _ => ?_, fun q => absurd q (by simp [hz])⟩
      have e : o.take kind = ⟨[], o.dead⟩ := by
        have hd := take_dead o kind
        cases ht : o.take kind with
        | mk l d =>
          rw [ht] at hz hd
          have hd' : d = o.dead := hd
          have hz' : l = [] := List.length_eq_zero_iff.1 hz
          rw [hz', hd']
      rw [← e]; exact r1
    · rw [if_neg (by show ¬ _ = (below.length : Int); rw [hlen]; omega)]
      exact ⟨fun q => absurd q (by simpa using hz), fun _ => fail_bad r1.bad 10⟩

theorem Rel.begin (h : Rel c ps op kind below o under) (op' k' : Int) (h3 : op' ≠ 3 ∨ True) : Rel (c.begin op' k') (ps ++ [⟨op, kind, below.length, o.dead, under⟩]) op' k' (below ++ o.l) ⟨[], false⟩ (under || o.dead) := by
  have hlen : c.stack.length = (below ++ o.l).length := by rw [h.stack, List.length_map]
  refine ⟨?_, ?_, h.bad, fun k hk => h.vals k (by simpa using hk), fun hu k hk => ?_, fun _ _ k hk => absurd hk (by simp), ?_⟩
  · show c.stack = _; rw [h.stack]; simp
  · unfold Ck.begin
    rw [h.top, hlen, h.opens]
    simp [Bool.or_comm]
  · simp only [Bool.or_eq_false_iff] at hu
    rcases List.mem_append.1 hk with hk | hk
    · exact h.clean1 hu.1 k hk
    · exact h.clean2 hu.1 hu.2 k hk
  · have := h.first
    cases ps with
    | nil => exact this
    | cons p ps => exact this
theorem LabsOf.begin {labs : List Lab} (h : LabsOf labs c) {x : Ins} (hk : K3 (x.a % 256)) : LabsOf (labs ++ [inLab x]) (c.begin x.op (x.a % 256)) := by
  refine ⟨?_, fun p hp => ?_⟩
  · show labs ++ [inLab x] = (c.opens ++ [_]).map labOf
    rw [List.map_append, h.1]; rfl
  · have : p ∈ c.opens ++ [(⟨x.op, x.a % 256, c.stack.length, false, decide (0 < c.opens.length) && (c.top.dead || c.top.under)⟩ : Part)] := hp
    rcases List.mem_append.1 this with h1 | h1
    · exact h.2 p h1
    · rw [List.mem_singleton.1 h1]; exact hk
theorem LabsOf.same {labs : List Lab} {c' : Ck} (h : LabsOf labs c) (e : c'.opens.map labOf = c.opens.map labOf) : LabsOf labs c' := by
  refine ⟨by rw [e]; exact h.1, fun p hp => ?_⟩
  have : labOf p ∈ c.opens.map labOf := by rw [← e]; exact List.mem_map_of_mem hp
  obtain ⟨q, hq, e2⟩ := List.mem_map.1 this
  have e3 : q.kind = p.kind := by
    have := congrArg Lab.gives e2
    exact this
  rw [← e3]; exact h.2 q hq
theorem Rel.labs {labs : List Lab} {c' : Ck} {below' : List Int} {o' : Own} {under' : Bool} (h : Rel c ps op kind below o under) (h' : Rel c' ps op kind below' o' under') (hl : LabsOf labs c) : LabsOf labs c' := by
  refine hl.same ?_
  rw [h.opens, h'.opens, List.map_append, List.map_append]
  rfl

/-- behind an inner part's row: what the program finds at its end or else -/
structure Parted (m : Mod) (loc : List Int) (l : List Ins) (ps : List Part) (op kind : Int) (below : List Int) (under : Bool) (i j : Nat) (c : Ck) (t t' : Ty) : Prop where
  good : t'.bad = 0 → t'.pos = t.pos ∧ ∃ (c1 : Ck) (d : Bool) (sh : List Shp), Rel c1.close ps op kind below ⟨[], d⟩ under ∧ c1.top = ⟨op, kind, below.length, d, under⟩ ∧ t'.shapes = sh.set j c1.shape ∧ vGo m loc (l.drop i) i c t.shapes = vGo m loc (l.drop j) j c1 sh
  bad : t'.bad ≠ 0 → vGo m loc (l.drop i) i c t.shapes = (t'.pos, t'.bad, t'.shapes)
theorem one_end {x : Ins} (c1 : Ck) (h : x.op = 11) : c1.one m loc x = c1.close.toEnd c1.top := by
  unfold Ck.one Ck.control
  rw [if_neg (by omega), if_pos (by omega), if_neg (by omega), if_neg (by omega), if_neg (by omega), if_neg (by omega), if_pos h]
theorem one_else {x : Ins} (c1 : Ck) (h : x.op = 5) : c1.one m loc x = c1.close.toElse c1.top := by
  unfold Ck.one Ck.control
  rw [if_neg (by omega), if_pos (by omega), if_neg (by omega), if_neg (by omega), if_neg (by omega), if_pos h]
theorem toEnd_bad {c1 : Ck} (p : Part) (h : c1.bad ≠ 0) : (c1.toEnd p).bad = c1.bad := by
  have e : (if p.op = 4 ∧ p.kind ≠ 64 then c1.fail 10 else c1) = c1 := by split; exact fail_keep h 10; rfl
  unfold Ck.toEnd; rw [e, if_neg h]
theorem toElse_bad {c1 : Ck} (p : Part) (h : c1.bad ≠ 0) : (c1.toElse p).bad = c1.bad := by unfold Ck.toElse; rw [if_neg h]

theorem parted {i j : Nat} {t : Ty} {r : Own × Ty} (hk : K3 kind) (hlt : j < l.length) (hop : (l.getD j zIns).op = 5 ∨ (l.getD j zIns).op = 11) (h : Rowed m loc l ps op kind below under i j c t r) :
    Parted m loc l ps op kind below under i j c t (partEnd r j kind below under) := by
  unfold partEnd
  by_cases hb : r.2.bad ≠ 0
  · rw [if_pos hb]; exact ⟨fun q => absurd q hb, fun _ => h.bad hb⟩
  · rw [if_neg hb]
    have hb0 : r.2.bad = 0 := by simpa using hb
    obtain ⟨hpos, c', hr, hgo⟩ := h.good hb0
    have hcl := close_rel hr hk
    have hsh : (r.2.shape j r.1 below under).shapes = r.2.shapes.set j c'.shape := by rw [hr.shape]; rfl
    cases hc : r.1.closes kind with
    | true =>
      rw [if_pos rfl]
      exact ⟨fun _ => ⟨hpos, c', r.1.dead, r.2.shapes, hcl.1 hc, hr.top, hsh, hgo⟩, fun q => absurd hb0 q⟩
    | false =>
      rw [if_neg (by decide)]
      have e : (r.2.shape j r.1 below under).bad = 0 := hb0
      rw [ty_fail e]
      refine ⟨fun q => absurd q (by decide : (10 : Int) ≠ 0), fun _ => ?_⟩
      have h10 := hcl.2 hc
      have hone : (c'.one m loc (l.getD j zIns)).bad = 10 := by
        rcases hop with h5 | h11
        · rw [one_else c' h5, toElse_bad _ (by rw [h10]; decide), h10]
        · rw [one_end c' h11, toEnd_bad _ (by rw [h10]; decide), h10]
      rw [hgo, vGo_fail hlt _ _ (by rw [hone]; decide), hone]
      show _ = ((j : Int), (10 : Int), (r.2.shape j r.1 below under).shapes)
      rw [hsh]

theorem insA {x : Ins} (hx : XGood x) (hb : isBlk x.op = true) : K3 (x.a % 256) := by
  obtain ⟨_, _, _, _, hA, _⟩ := hx.bes
  unfold isBlk at hb
  rw [decide_eq_true_eq] at hb
  have : besides x.op = 2 := by unfold besides; rw [if_pos (by omega)]
  rw [this] at hA
  simp [insGoodA] at hA
  unfold K3
  omega

theorem one_blk {x : Ins} (hb : isBlk x.op = true) : c.one m loc x = (if x.op = 4 then c.pop 127 else c).begin x.op (x.a % 256) := by
  unfold isBlk at hb
  rw [decide_eq_true_eq] at hb
  unfold Ck.one Ck.control
  rw [if_neg (by omega), if_pos (by omega), if_neg (by omega)]
  by_cases h4 : x.op = 4
  · rw [if_neg (by omega), if_pos h4, if_pos h4]
  · rw [if_pos (by omega), if_neg h4]
theorem end_rel {cc : Ck} {op' k : Int} {d under' : Bool} (h0 : Rel c ps op kind below o under) (h : Rel cc (ps ++ [⟨op, kind, below.length, o.dead, under⟩]) op' k (below ++ o.l) ⟨[], d⟩ under') (hk : K3 k) :
    Rel (cc.up.push k) ps op kind below (o.give k) under := by
  have hu : Rel cc.up ps op kind below o under := by
    refine ⟨?_, ?_, h.bad, h0.vals, h0.clean1, h0.clean2, h0.first⟩
    · show cc.stack = _; rw [h.stack]; simp
    · unfold Ck.up; rw [h.opens, take_last]
  have := hu.push (k := k) (by unfold K3 at hk; unfold V; omega) (fun e => by unfold K3 at hk; omega)
  rw [fz_K3 hk] at this
  exact this
theorem else_rel {cc : Ck} {op' k : Int} {b' : List Int} {d under' : Bool} {qs : List Part} (h : Rel cc qs op' k b' ⟨[], d⟩ under') (hq : qs ≠ []) :
    Rel (cc.toElse ⟨op', k, b'.length, d, under'⟩) qs 5 k b' ⟨[], false⟩ under' := by
  unfold Ck.toElse
  rw [if_pos h.bad]
  refine ⟨h.stack, ?_, h.bad, h.vals, h.clean1, fun _ _ k hk => absurd hk (by simp), ?_⟩
  · show cc.opens.take (cc.opens.length - 1) ++ _ = _
    rw [h.opens, take_last]
  · have := h.first
    cases qs with
    | nil => exact absurd rfl hq
    | cons p ps => exact this
theorem toEnd_ok {cc : Ck} {p : Part} (hb : cc.bad = 0) (h : ¬ (p.op = 4 ∧ p.kind ≠ 64)) : cc.toEnd p = cc.up.push p.kind := by
  unfold Ck.toEnd; rw [if_neg h, if_pos hb]
theorem toEnd_no {cc : Ck} {p : Part} (hb : cc.bad = 0) (h : p.op = 4 ∧ p.kind ≠ 64) : (cc.toEnd p).bad = 10 := by
  have := fail_bad hb 10
  unfold Ck.toEnd; rw [if_pos h, if_neg (by rw [this]; decide), this]

/-- behind a block's last part -/
theorem ended {e j : Nat} {t t' : Ty} {op' k : Int} {d under' : Bool} {sh : List Shp} {c0 c1 : Ck} {r : Own × Ty} (hlt : e < l.length) (h11 : (l.getD e zIns).op = 11)
    (h0 : Rel c0 ps op kind below o under) (hcl : Rel c1.close (ps ++ [⟨op, kind, below.length, o.dead, under⟩]) op' k (below ++ o.l) ⟨[], d⟩ under')
    (htop : c1.top = ⟨op', k, (below ++ o.l).length, d, under'⟩) (hk : K3 k) (hno : ¬ (op' = 4 ∧ k ≠ 64)) (hsh : t'.shapes = sh.set e c1.shape)
    (ih : ∀ c', Rel c' ps op kind below (o.give k) under → Rowed m loc l ps op kind below under (e + 1) j c' t' r)
    {i : Nat} {c : Ck} (hgo : vGo m loc (l.drop i) i c t.shapes = vGo m loc (l.drop e) e c1 sh) (hpos : t'.pos = t.pos) : Rowed m loc l ps op kind below under i j c t r := by
  have hone : c1.one m loc (l.getD e zIns) = c1.close.up.push k := by
    rw [one_end c1 h11, htop, toEnd_ok hcl.bad hno]
  have hr := end_rel h0 hcl hk
  have hs := vGo_step (m := m) (loc := loc) hlt c1 sh (by rw [hone]; exact hr.bad)
  rw [hone, ← hsh] at hs
  obtain ⟨g, b⟩ := ih _ hr
  refine ⟨fun q => ?_, fun q => ?_⟩
  · obtain ⟨hp, c', hr', hg⟩ := g q
    exact ⟨hp.trans hpos, c', hr', hgo.trans (hs.trans hg)⟩
  · exact hgo.trans (hs.trans (b q))

theorem partEnd_bad {r : Own × Ty} (to : Nat) (k : Int) (b : List Int) (u : Bool) (h : r.2.bad ≠ 0) : partEnd r to k b u = r.2 := by unfold partEnd; rw [if_pos h]
theorem ifEnd_bad (x : Ins) {t : Ty} (e : Nat) (h : t.bad ≠ 0) : ifEnd x t e = t := by unfold ifEnd; rw [ty_keep h]; split <;> rfl
theorem popO_dead (x : Ins) (o : Own) : (popO x o).dead = o.dead := by unfold popO; split; exact take_dead _ _; rfl
theorem blk_start {labs : List Lab} {x : Ins} {t : Ty} {i : Nat} (hr : Rel c ps op kind below o under) (hl : LabsOf labs c) (hx : XGood x) (h3 : isBlk x.op = true) (ht : t.bad = 0) :
    ((c.one m loc x).bad = 10 ∧ popT x o (t.shape i o below under) i = ⟨t.shapes.set i c.shape, i, 10⟩) ∨
    (∃ c1, Rel c1 ps op kind below (popO x o) under) ∧ Rel (c.one m loc x) (ps ++ [⟨op, kind, below.length, (popO x o).dead, under⟩]) x.op (x.a % 256) (below ++ (popO x o).l) ⟨[], false⟩ (under || o.dead) ∧
      LabsOf (labs ++ [inLab x]) (c.one m loc x) ∧ (c.one m loc x).bad = 0 ∧ popT x o (t.shape i o below under) i = ⟨t.shapes.set i c.shape, t.pos, t.bad⟩ := by
  have hk := insA hx h3
  have hone := one_blk (c := c) (m := m) (loc := loc) h3
  have hsh : t.shape i o below under = ⟨t.shapes.set i c.shape, t.pos, t.bad⟩ := by rw [hr.shape]; rfl
  have key : ((if x.op = 4 then c.pop 127 else c).bad = 10 ∧ popB x o = false) ∨ (Rel (if x.op = 4 then c.pop 127 else c) ps op kind below (popO x o) under ∧ popB x o = true) := by
    unfold popO popB
    by_cases h4 : x.op = 4
    · have hp := hr.pop (k := 127) (.inr (by unfold V; omega))
      rw [fz_K2 (.inr rfl)] at hp
      simp only [if_pos h4]
      cases hb : o.takeB 127 with
      | false => exact .inl ⟨hp.2 hb, rfl⟩
      | true => exact .inr ⟨(hp.1 hb).1, rfl⟩
    · simp only [if_neg h4]
      exact .inr ⟨hr, trivial⟩
  unfold popT
  rw [hone]
  rcases key with ⟨hb, hp⟩ | ⟨r1, hp⟩
  · rw [hp, if_neg Bool.false_ne_true, hsh, ty_fail (by exact ht)]
    exact .inl ⟨hb, rfl⟩
  · rw [hp, if_pos rfl, hsh]
    have r2 := r1.begin x.op (x.a % 256) (.inr trivial)
    have hd := popO_dead x o
    refine .inr ⟨⟨_, r1⟩, ?_, (hr.labs r1 hl).begin hk, r2.bad, rfl⟩
    rw [← hd] at *
    exact r2
theorem row_law (hm : ModGood m) (hloc : ∀ k ∈ loc, K2 k) (hall : ∀ x ∈ l, 0 ≤ x.op ∧ x.op ≤ 255) {i j : Nat} (hN : Nest l E L i j) :
    ∀ (f : Nat) (c : Ck) (ps : List Part) (op kind : Int) (below : List Int) (o : Own) (under : Bool) (labs : List Lab) (t : Ty), j < i + f → Rel c ps op kind below o under → LabsOf labs c → t.bad = 0 →
      Rowed m loc l ps op kind below under i j c t (rRow m loc l E L f i j labs below under o t) := by
  have good : ∀ {i : Nat}, i < l.length → insCheck (l.getD i zIns) = 0 → XGood (l.getD i zIns) := by
    intro i hi h
    have hmem : l.getD i zIns ∈ l := by
      rw [List.getD_eq_getElem?_getD, List.getElem?_eq_getElem hi, Option.getD_some]; exact List.getElem_mem hi
    exact ⟨(hall _ hmem).1, (hall _ hmem).2, h⟩
  induction hN with
  | @stop j h1 h2 =>
    intro f c ps op kind below o under labs t hf hr hl ht
    rw [rRow_end]
    exact ⟨fun _ => ⟨rfl, c, hr, rfl⟩, fun q => absurd ht q⟩
  | @plain i j h1 h2 h3 h4 hN ih =>
    intro f c ps op kind below o under labs t hf hr hl ht
    have hle := hN.le
    obtain ⟨f, rfl⟩ : ∃ g, f = g + 1 := ⟨f - 1, by omega⟩
    rw [rRow, if_pos ⟨by omega, ht⟩, h4, if_neg Bool.false_ne_true]
    have hst := step_simple hm hloc hr hl (good h1 h2) h3 h4
    generalize rSimple m loc labs o (l.getD i zIns) = s at hst ⊢
    have hsh : (t.shape i o below under).shapes = t.shapes.set i c.shape := by rw [hr.shape]; rfl
    by_cases he : s.2 = 0
    · have r1 := hst.1 he
      have ht1 : (t.shape i o below under).failIf i s.2 = t.shape i o below under := by unfold Ty.failIf; rw [if_pos he]
      rw [ht1]
      obtain ⟨g, b⟩ := ih f _ ps op kind below s.1 under labs (t.shape i o below under) (by omega) r1 (hr.labs r1 hl) ht
      have hs := vGo_step (m := m) (loc := loc) h1 c t.shapes r1.bad
      rw [← hsh] at hs
      refine ⟨fun q => ?_, fun q => ?_⟩
      · obtain ⟨hp, c', hr', hg⟩ := g q
        exact ⟨hp, c', hr', hs.trans hg⟩
      · exact hs.trans (b q)
    · have hb := hst.2 he
      have ht1 : (t.shape i o below under).failIf i s.2 = ⟨t.shapes.set i c.shape, i, s.2⟩ := by
        unfold Ty.failIf; rw [if_neg he, ty_fail (by exact ht), hsh]
      rw [ht1, rRow_bad _ _ _ _ _ _ _ _ he]
      refine ⟨fun q => absurd q he, fun _ => ?_⟩
      rw [vGo_fail h1 _ _ (by rw [hb]; exact he), hb]
  | @block i e j h1 h2 h3 hN1 h11 hE hL hN2 ih1 ih2 =>
    intro f c ps op kind below o under labs t hf hr hl ht
    have hle1 := hN1.le
    have hle2 := hN2.le
    obtain ⟨f, rfl⟩ : ∃ g, f = g + 1 := ⟨f - 1, by omega⟩
    have hx := good h1 h2
    have hk := insA hx h3
    rw [rRow, if_pos ⟨by omega, ht⟩, if_pos h3, hE, hL]
    simp only [Int.toNat_natCast]
    rw [if_neg (by decide)]
    have hst := blk_start (m := m) (loc := loc) hr hl hx h3 ht (i := i)
    have hs0 := vGo_step (m := m) (loc := loc) h1 c t.shapes
    have hf0 := vGo_fail (m := m) (loc := loc) h1 c t.shapes
    generalize l.getD i zIns = x at hx hk hst hs0 hf0 h3 ⊢
    rcases hst with ⟨hbad, ht2⟩ | ⟨⟨c0, r1⟩, r2, hl2, hb2, ht2⟩
    · rw [ht2]
      have h10 : (⟨t.shapes.set i c.shape, (i : Int), 10⟩ : Ty).bad ≠ 0 := by show (10 : Int) ≠ 0; decide
      rw [rRow_bad _ _ _ _ _ _ _ _ h10, partEnd_bad _ _ _ _ h10, ifEnd_bad _ _ h10, rRow_bad _ _ _ _ _ _ _ _ h10]
      exact ⟨fun q => absurd q h10, fun _ => by rw [hf0 (by rw [hbad]; decide), hbad]⟩
    · have hs := hs0 hb2
      rw [ht2]
      have hI := parted (m := m) (loc := loc) hk hle1.2.1 hle1.2.2 (ih1 f _ _ x.op (x.a % 256) (below ++ (popO x o).l) ⟨[], false⟩ (under || o.dead) (labs ++ [inLab x]) ⟨t.shapes.set i c.shape, t.pos, t.bad⟩ (by omega) r2 hl2 ht)
      generalize partEnd (rRow m loc l E L f (i + 1) e (labs ++ [inLab x]) (below ++ (popO x o).l) (under || o.dead) ⟨[], false⟩ ⟨t.shapes.set i c.shape, t.pos, t.bad⟩) e (x.a % 256) (below ++ (popO x o).l) (under || o.dead) = t' at hI ⊢
      by_cases hb : t'.bad ≠ 0
      · rw [ifEnd_bad _ _ hb, rRow_bad _ _ _ _ _ _ _ _ hb]
        exact ⟨fun q => absurd q hb, fun _ => hs.trans (hI.bad hb)⟩
      · have hb0 : t'.bad = 0 := by simpa using hb
        obtain ⟨hpos, c1, d, sh, hcl, htop, hsh, hgo⟩ := hI.good hb0
        by_cases hno : x.op = 4 ∧ x.a % 256 ≠ 64
        · have e1 : ifEnd x t' e = ⟨t'.shapes, e, 10⟩ := by unfold ifEnd; rw [if_pos hno, ty_fail hb0]
          have h10 : (⟨t'.shapes, (e : Int), 10⟩ : Ty).bad ≠ 0 := by show (10 : Int) ≠ 0; decide
          rw [e1, rRow_bad _ _ _ _ _ _ _ _ h10]
          have hone : (c1.one m loc (l.getD e zIns)).bad = 10 := by rw [one_end c1 h11, htop]; exact toEnd_no hcl.bad hno
          refine ⟨fun q => absurd q h10, fun _ => ?_⟩
          rw [hs, hgo, vGo_fail hle1.2.1 _ _ (by rw [hone]; decide), hone, hsh]
        · have e1 : ifEnd x t' e = t' := by unfold ifEnd; rw [if_neg hno]
          rw [e1]
          exact ended hle1.2.1 h11 r1 hcl htop hk hno hsh (fun c' hc' => ih2 f c' ps op kind below _ under labs t' (by omega) hc' (hr.labs hc' hl) hb0) (hs.trans hgo) hpos
  | @choice i h e j h1 h2 h4 hN1 h5 hN2 h11 hE hL hN3 ih1 ih2 ih3 =>
    intro f c ps op kind below o under labs t hf hr hl ht
    have hle1 := hN1.le
    have hle2 := hN2.le
    have hle3 := hN3.le
    obtain ⟨f, rfl⟩ : ∃ g, f = g + 1 := ⟨f - 1, by omega⟩
    have hx := good h1 h2
    have h3 : isBlk (l.getD i zIns).op = true := by rw [h4]; rfl
    have hk := insA hx h3
    rw [rRow, if_pos ⟨by omega, ht⟩, if_pos h3, hE, hL]
    simp only [Int.toNat_natCast]
    rw [if_pos (by omega)]
    have hst := blk_start (m := m) (loc := loc) hr hl hx h3 ht (i := i)
    have hs0 := vGo_step (m := m) (loc := loc) h1 c t.shapes
    have hf0 := vGo_fail (m := m) (loc := loc) h1 c t.shapes
    generalize l.getD i zIns = x at hx hk hst hs0 hf0 h3 h4 ⊢
    rcases hst with ⟨hbad, ht2⟩ | ⟨⟨c0, r1⟩, r2, hl2, hb2, ht2⟩
    · rw [ht2]
      have h10 : (⟨t.shapes.set i c.shape, (i : Int), 10⟩ : Ty).bad ≠ 0 := by show (10 : Int) ≠ 0; decide
      have e2 : ∀ (o' : Own) (q : Nat) (k : Int) (b : List Int) (u : Bool), partEnd (o', (⟨t.shapes.set i c.shape, (i : Int), 10⟩ : Ty)) q k b u = ⟨t.shapes.set i c.shape, i, 10⟩ := fun o' q k b u => partEnd_bad (r := (o', _)) q k b u h10
      rw [rRow_bad _ _ _ _ _ _ _ _ h10, e2, rRow_bad _ _ _ _ _ _ _ _ h10, e2, rRow_bad _ _ _ _ _ _ _ _ h10]
      exact ⟨fun q => absurd q h10, fun _ => by rw [hf0 (by rw [hbad]; decide), hbad]⟩
    · have hs := hs0 hb2
      rw [ht2]
      have hI := parted (m := m) (loc := loc) hk hle1.2.1 hle1.2.2 (ih1 f _ _ x.op (x.a % 256) (below ++ (popO x o).l) ⟨[], false⟩ (under || o.dead) (labs ++ [inLab x]) ⟨t.shapes.set i c.shape, t.pos, t.bad⟩ (by omega) r2 hl2 ht)
      generalize partEnd (rRow m loc l E L f (i + 1) h (labs ++ [inLab x]) (below ++ (popO x o).l) (under || o.dead) ⟨[], false⟩ ⟨t.shapes.set i c.shape, t.pos, t.bad⟩) h (x.a % 256) (below ++ (popO x o).l) (under || o.dead) = t' at hI ⊢
      by_cases hb : t'.bad ≠ 0
      · rw [rRow_bad _ _ _ _ _ _ _ _ hb, partEnd_bad _ _ _ _ hb, rRow_bad _ _ _ _ _ _ _ _ hb]
        exact ⟨fun q => absurd q hb, fun _ => hs.trans (hI.bad hb)⟩
      · have hb0 : t'.bad = 0 := by simpa using hb
        obtain ⟨hpos, c1, d, sh, hcl, htop, hsh, hgo⟩ := hI.good hb0
        have re := else_rel hcl (by simp)
        have hone : c1.one m loc (l.getD h zIns) = c1.close.toElse ⟨x.op, x.a % 256, (below ++ (popO x o).l).length, d, under || o.dead⟩ := by rw [one_else c1 h5, htop]
        have hse := vGo_step (m := m) (loc := loc) hle1.2.1 c1 sh (by rw [hone]; exact re.bad)
        rw [hone, ← hsh] at hse
        have hle' : LabsOf (labs ++ [inLab x]) (c1.close.toElse ⟨x.op, x.a % 256, (below ++ (popO x o).l).length, d, under || o.dead⟩) := by
          refine hl2.same ?_
          rw [re.opens, r2.opens, List.map_append, List.map_append]
          simp [labOf, Part.along, h4]
        have hJ := parted (m := m) (loc := loc) hk hle2.2.1 hle2.2.2 (ih2 f _ _ 5 (x.a % 256) (below ++ (popO x o).l) ⟨[], false⟩ (under || o.dead) (labs ++ [inLab x]) t' (by omega) re hle' hb0)
        generalize partEnd (rRow m loc l E L f (h + 1) e (labs ++ [inLab x]) (below ++ (popO x o).l) (under || o.dead) ⟨[], false⟩ t') e (x.a % 256) (below ++ (popO x o).l) (under || o.dead) = t'' at hJ ⊢
        have hs2 := hs.trans (hgo.trans hse)
        by_cases hc : t''.bad ≠ 0
        · rw [rRow_bad _ _ _ _ _ _ _ _ hc]
          exact ⟨fun q => absurd q hc, fun _ => hs2.trans (hJ.bad hc)⟩
        · have hc0 : t''.bad = 0 := by simpa using hc
          obtain ⟨hpos2, c2, d2, sh2, hcl2, htop2, hsh2, hgo2⟩ := hJ.good hc0
          exact ended hle2.2.1 h11 r1 hcl2 htop2 hk (by omega) hsh2 (fun c' hc' => ih3 f c' ps op kind below _ under labs t'' (by omega) hc' (hr.labs hc' hl) hc0) (hs2.trans hgo2) (hpos2.trans hpos)
end
end Trp
