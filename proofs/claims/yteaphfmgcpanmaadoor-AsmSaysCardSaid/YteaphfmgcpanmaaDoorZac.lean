/- A part of the proof: lemmas and walks that the last text of this claim uses. -/
import Derived.Test.YteaphfmgcpanmaaDoorZab
import Derived.Test.YteaphfmgcpanmaaDoorProg
import Derived.WalkKit
import Derived.WalkSpells
import Derived.Lib.Hide
import Derived.Great.BuildSlice
import Derived.Deep.QuietTactic
import Derived.BigQuiet
import Derived.Deep.DeepCutAuto
import Derived.Deep.CutBlock
import Derived.Shelf.Strings.Cut
import Derived.Shelf.Strings.Search3
import Derived.Shelf.Strings.IndexAnyAll
import Derived.Shelf.Strings.Split
import Derived.Deep.LoopGhost
import Derived.Shelf.LaysM
import Derived.Shelf.Strings.OnBuilder
import Derived.Shelf.Strings.Builder1
import Derived.Shelf.Strings.Builder2
import Derived.Shelf.Strconv.Itoa4
import Derived.Laws.BytesArg
import Derived.Deep.RegionWith
import Derived.Laws.Strings
import Derived.Lib.Split
import Derived.Lib.ItoaNum

namespace Go.Proofs.YteaphfmgcpanmaaDoor
open Go.RowKit Go.Proofs.YteaphfmgcpanmaaDoorW.PrintWords
set_option linter.unusedVariables false

def rd_L2 (xs : List (List Int)) (i : Int) : (List Int) := xs.getD i.toNat ([] : List Int)
theorem at_L2 {w : World} {A : Option Addr} {n : Nat} {xs : List (List Int)} (h : Kd.C (Kd.slice 2 (Kd.int .i64)) w A n xs) (i : Int) (h0 : 0 ≤ i) (h1 : i < n) : ∃ ad A0 c0, A = some ad ∧ w.cell? (ad.add i.toNat) = some (.slice A0 (rd_L2 xs i).length c0) ∧ (rd_L2 xs i).length ≤ c0 ∧ (Kd.int .i64).C w A0 (rd_L2 xs i).length (rd_L2 xs i) := by
  obtain ⟨ad, c, e, _, hK, hc0⟩ := Kd.C_get h ([] : List Int) i h0 h1
  have hc : ∀ j u, c[j]? = some u → w.cell? (ad.add (i.toNat * 1 + j)) = some u := hc0
  obtain ⟨A0, c0, rfl, l0, g0⟩ := hK
  exact ⟨ad, A0, c0, e, by have hq := hc 0 _ rfl; rwa [Nat.mul_one, Nat.add_zero] at hq, l0, g0⟩

/-! #### Ins -/
def zIns : Trp.Ins := ⟨(0 : Int), (0 : Int), (0 : Int), ([] : List Int)⟩
def kIns : Kd Trp.Ins := Kd.iso (Kd.pair (Kd.int .u8) (Kd.pair (Kd.int .i64) (Kd.pair (Kd.int .i64) (Kd.slice 2 (Kd.int .i64))))) (fun x : Trp.Ins => (x.op, x.a, x.b, x.tos))
theorem kIns_open {w : World} {x : Trp.Ins} {cs : List Value} (h : kIns.K w x cs) : ∃ A3 c3, cs = [.int .u8 x.op, .int .i64 x.a, .int .i64 x.b, .slice A3 x.tos.length c3] ∧ x.tos.length ≤ c3 ∧ (Kd.int .i64).C w A3 x.tos.length x.tos := by
  obtain ⟨_, _, rfl, rfl, ⟨_, _, rfl, rfl, ⟨_, _, rfl, rfl, ⟨A3, c3, rfl, l3, g3⟩⟩⟩⟩ := h
  exact ⟨A3, c3, rfl, l3, g3⟩
theorem kIns_openM {w : World} {base : Nat} {ok : Nat → Prop} {x : Trp.Ins} {cs : List Value} (h : kIns.M w base ok x cs) : ∃ v3, cs = [.int .u8 x.op, .int .i64 x.a, .int .i64 x.b, v3] ∧ (Kd.int .i64).R 2 w base ok v3 x.tos := by
  obtain ⟨_, _, rfl, rfl, ⟨_, _, rfl, rfl, ⟨_, _, rfl, rfl, ⟨v3, rfl, g3⟩⟩⟩⟩ := h
  exact ⟨v3, rfl, g3⟩
theorem kIns_mk (w : World) (x : Trp.Ins) {A3 : Option Addr} {c3 : Nat} (l3 : x.tos.length ≤ c3) (g3 : (Kd.int .i64).C w A3 x.tos.length x.tos) : kIns.K w x [.int .u8 x.op, .int .i64 x.a, .int .i64 x.b, .slice A3 x.tos.length c3] := ⟨[.int .u8 x.op], [.int .i64 x.a, .int .i64 x.b, .slice A3 x.tos.length c3], rfl, rfl, ⟨[.int .i64 x.a], [.int .i64 x.b, .slice A3 x.tos.length c3], rfl, rfl, ⟨[.int .i64 x.b], [.slice A3 x.tos.length c3], rfl, rfl, ⟨A3, c3, rfl, l3, g3⟩⟩⟩⟩
theorem kIns_mkM (w : World) (base : Nat) (ok : Nat → Prop) (x : Trp.Ins) {v3 : Value} (g3 : (Kd.int .i64).R 2 w base ok v3 x.tos) : kIns.M w base ok x [.int .u8 x.op, .int .i64 x.a, .int .i64 x.b, v3] := ⟨[.int .u8 x.op], [.int .i64 x.a, .int .i64 x.b, v3], rfl, rfl, ⟨[.int .i64 x.a], [.int .i64 x.b, v3], rfl, rfl, ⟨[.int .i64 x.b], [v3], rfl, rfl, ⟨v3, rfl, g3⟩⟩⟩⟩
def rd_TIns (xs : List Trp.Ins) (i : Int) : Trp.Ins := xs.getD i.toNat zIns
theorem at_TIns {w : World} {A : Option Addr} {n : Nat} {xs : List Trp.Ins} (h : Kd.C kIns w A n xs) (i : Int) (h0 : 0 ≤ i) (h1 : i < n) : ∃ ad A3 c3, A = some ad ∧ w.cell? (ad.add (i.toNat * 4)) = some (.int .u8 (rd_TIns xs i).op) ∧ w.cell? ⟨(ad.add (i.toNat * 4)).block, (ad.add (i.toNat * 4)).off + 1, none⟩ = some (.int .i64 (rd_TIns xs i).a) ∧ w.cell? ⟨(ad.add (i.toNat * 4)).block, (ad.add (i.toNat * 4)).off + 2, none⟩ = some (.int .i64 (rd_TIns xs i).b) ∧ w.cell? ⟨(ad.add (i.toNat * 4)).block, (ad.add (i.toNat * 4)).off + 3, none⟩ = some (.slice A3 (rd_TIns xs i).tos.length c3) ∧ (rd_TIns xs i).tos.length ≤ c3 ∧ (Kd.int .i64).C w A3 (rd_TIns xs i).tos.length (rd_TIns xs i).tos := by
  obtain ⟨ad, c, e, _, hK, hc0⟩ := Kd.C_get h zIns i h0 h1
  have hc : ∀ j u, c[j]? = some u → w.cell? (ad.add (i.toNat * 4 + j)) = some u := hc0
  obtain ⟨A3, c3, rfl, l3, g3⟩ := kIns_open hK
  exact ⟨ad, A3, c3, e, hc 0 _ rfl, by rw [← add_field _ _ 1 (by omega)]; exact hc 1 _ rfl, by rw [← add_field _ _ 2 (by omega)]; exact hc 2 _ rfl, by rw [← add_field _ _ 3 (by omega)]; exact hc 3 _ rfl, l3, g3⟩

end Go.Proofs.YteaphfmgcpanmaaDoor

namespace Go.Proofs.YteaphfmgcpanmaaDoor
set_option linter.unusedVariables false
set_option linter.unusedSimpArgs false
open Go.RowKit Go.Proofs.YteaphfmgcpanmaaDoorW.PrintWords

theorem ret_int {k : IntKind} {a b : Int} (h : a = b) : Ending.returned (.int k a) = .returned (.int k b) := by rw [h]
theorem ret_bool {a b : Bool} (h : a = b) : Ending.returned (.bool a) = .returned (.bool b) := by rw [h]
theorem ret_vib {v : Value} {k : IntKind} {a b : Int} {c d : Bool} (h : a = b) (h' : c = d) : Ending.returned (.tuple #[v, .int k a, .bool c]) = .returned (.tuple #[v, .int k b, .bool d]) := by rw [h, h']
theorem ret_vvb {u v : Value} {c d : Bool} (h' : c = d) : Ending.returned (.tuple #[u, v, .bool c]) = .returned (.tuple #[u, v, .bool d]) := by rw [h']
theorem ret_ii {k k' : IntKind} {a b c d : Int} (h : a = b) (h' : c = d) : Ending.returned (.tuple #[.int k a, .int k' c]) = .returned (.tuple #[.int k b, .int k' d]) := by rw [h, h']
theorem ret_ib {k : IntKind} {a b : Int} {c d : Bool} (h : a = b) (h' : c = d) : Ending.returned (.tuple #[.int k a, .bool c]) = .returned (.tuple #[.int k b, .bool d]) := by rw [h, h']

/-- a row of numbers that a literal laid -/
theorem rowLit (W : World) (base : Nat) (e : TypeId) (k : IntKind) (xs : List Int) (hb : base ≤ W.heap.size) (hm : xs.length ≤ 9223372036854775807) :
    (Kd.int k).R e (W.alloc (.cells (nums k xs).toArray e)) base (fun _ => True) (.slice (some ⟨W.heap.size, 0, none⟩) xs.length xs.length) xs :=
  Kd.R_of_own (own_lit W base e k xs hb hm) (fun _ _ => trivial)
theorem rowLit1 {W : World} {base g : Nat} {e : TypeId} {k : IntKind} {x : Int} (hg : W.heap.size = g) (hb : base ≤ g) :
    (Kd.int k).R e (W.alloc (.cells #[.int k x] e)) base (fun _ => True) (.slice (some ⟨g, 0, none⟩) 1 1) [x] := by
  subst hg; exact rowLit W base e k [x] hb (by simp)
theorem rowLit2 {W : World} {base g : Nat} {e : TypeId} {k : IntKind} {x y : Int} (hg : W.heap.size = g) (hb : base ≤ g) :
    (Kd.int k).R e (W.alloc (.cells #[.int k x, .int k y] e)) base (fun _ => True) (.slice (some ⟨g, 0, none⟩) 2 2) [x, y] := by
  subst hg; exact rowLit W base e k [x, y] hb (by simp)
theorem rowNil (W : World) (base : Nat) (e : TypeId) (k : IntKind) : (Kd.int k).R e W base (fun _ => True) (.slice none 0 0) [] := Kd.R_nil _ _ _ _ _

theorem infoKind : (Tryd.prog.info? 97).map (fun i => (i.zero, i.size, i.bytes)) = some (some (.int .u8 0), 1, 1) := by kernel_rfl
theorem buildKinds (xs : List Int) (n : Nat) (hn : n = xs.length) (h0 : 0 < n) (h1 : n ≤ 16777216) (parts : Array (Nat × Value)) (hp : parts.toList = ((xs.map (Value.int .u8)).zipIdx 0).map fun x => (x.2, x.1)) (W : World) :
    (Instr.buildSlice 96 n parts).run Tryd.prog W = .ok (.slice (some ⟨W.heap.size, 0, none⟩) n n) (W.alloc (.cells (xs.map (Value.int .u8)).toArray 97)) := by
  obtain ⟨ie, hie, hz⟩ := Option.map_eq_some_iff.1 infoKind
  simp only [Prod.mk.injEq] at hz
  obtain ⟨hz0, hz1, _⟩ := hz
  refine run_buildSlice W _ _ n parts _ ie _ Tryd.underlying96 hie hz0 (by rw [hz1]; omega) (by rw [hz1]; omega) ?_
  rw [hp, hz1]
  exact Great.fill_flat _ _ (fun v hv => by obtain ⟨n, _, rfl⟩ := List.mem_map.1 hv; rfl) (by simp [hn])
theorem buildKinds1 (x : Int) (W : World) : (Instr.buildSlice 96 1 #[(0, .int .u8 x)]).run Tryd.prog W = .ok (.slice (some ⟨W.heap.size, 0, none⟩) 1 1) (W.alloc (.cells #[.int .u8 x] 97)) :=
  buildKinds [x] 1 rfl (by omega) (by omega) _ rfl W
theorem buildKinds2 (x y : Int) (W : World) : (Instr.buildSlice 96 2 #[(0, .int .u8 x), (1, .int .u8 y)]).run Tryd.prog W = .ok (.slice (some ⟨W.heap.size, 0, none⟩) 2 2) (W.alloc (.cells #[.int .u8 x, .int .u8 y] 97)) :=
  buildKinds [x, y] 2 rfl (by omega) (by omega) _ rfl W

/-- append(v, p), v a row of the call's own: as the print's word, the new block's number said by the goal -/
theorem appendR {P : Program} {ops : Array Oper} {rest : List Oper} {o : Oper} {a : Act} {Q : Exit → Act → World → Prop} {α : Type} (d : Kd α) {w0 W : World} {base : Nat} (hgd : o.guard = none) (s x : Operand) (t e : TypeId) (z : Value) (bytes : Nat)
    (ho : o.op = .call { callee := .builtin .append, args := #[s, x], argTypes := #[t, t] })
    (ht : P.underlying t = some (.slice e)) (hinfo : (P.info? e).map (fun i => (i.zero, i.size, i.bytes)) = some (some z, d.sz, bytes)) (hz : z.cells.size = d.sz) (hs0 : 0 < d.sz) (hb0 : 0 < bytes)
    {v : Value} {xs : List α} {ok okp : Nat → Prop} (HO : d.R e W base ok v xs) (p : α) (cs : List Value) {N : Nat} (hs : a.eval s = v) (hx : a.eval x = .slice (some ⟨N, 0, none⟩) 1 1) (hN : W.heap.size = N) (hp : d.M W base okp p cs) (hokp : ∀ k, okp k → ok k ∧ some k ≠ v.ownBlock) (hfresh : ∀ k, W.heap.size ≤ k → ok k)
    (HB : Below base w0 W) (hbase : base ≤ W.heap.size) (hl : (xs.length + 1) * bytes ≤ 140737488355328)
    (h : ∀ v1 w1, d.R e w1 base ok v1 (xs ++ [p]) → Below base w0 w1 → W.grownBy w1 v.ownBlock → (v1.ownBlock = v.ownBlock ∨ ∃ b, v1.ownBlock = some b ∧ W.heap.size ≤ b) → wpList P ops Q rest (a.put o.dst v1) w1) :
    wpList P ops Q (o :: rest) a (W.alloc (.cells cs.toArray e)) := by
  subst hN
  exact Kd.R_append d base hgd s x t e z bytes ho ht hinfo hz hs0 hb0 v xs p cs ok okp hs hx hp hokp hfresh HO HB hbase hl h
theorem appendR_step {P : Program} {ops : Array Oper} {o : Oper} {a : Act} {Q : Exit → Act → World → Prop} {Kc : Act → World → Prop} {α : Type} (d : Kd α) {w0 W : World} {base : Nat} (hw : Region.wanted o (yielded ops a.tmps) = true) (s x : Operand) (t e : TypeId) (z : Value) (bytes : Nat)
    (ho : o.op = .call { callee := .builtin .append, args := #[s, x], argTypes := #[t, t] })
    (ht : P.underlying t = some (.slice e)) (hinfo : (P.info? e).map (fun i => (i.zero, i.size, i.bytes)) = some (some z, d.sz, bytes)) (hz : z.cells.size = d.sz) (hs0 : 0 < d.sz) (hb0 : 0 < bytes)
    {v : Value} {xs : List α} {ok okp : Nat → Prop} (HO : d.R e W base ok v xs) (p : α) (cs : List Value) {N : Nat} (hs : a.eval s = v) (hx : a.eval x = .slice (some ⟨N, 0, none⟩) 1 1) (hN : W.heap.size = N) (hp : d.M W base okp p cs) (hokp : ∀ k, okp k → ok k ∧ some k ≠ v.ownBlock) (hfresh : ∀ k, W.heap.size ≤ k → ok k)
    (HB : Below base w0 W) (hbase : base ≤ W.heap.size) (hl : (xs.length + 1) * bytes ≤ 140737488355328)
    (h : ∀ v1 w1, d.R e w1 base ok v1 (xs ++ [p]) → Below base w0 w1 → W.grownBy w1 v.ownBlock → (v1.ownBlock = v.ownBlock ∨ ∃ b, v1.ownBlock = some b ∧ W.heap.size ≤ b) → Kc (a.put o.dst v1) w1) :
    if Region.wanted o (yielded ops a.tmps) = true then Oper.wp P o a (W.alloc (.cells cs.toArray e)) Kc Q else Kc (a.put o.dst undef) (W.alloc (.cells cs.toArray e)) := by
  subst hN
  exact Kd.R_append_step d base hw s x t e z bytes ho ht hinfo hz hs0 hb0 v xs p cs ok okp hs hx hp hokp hfresh HO HB hbase hl h

theorem bcell {w W : World} (hb : Below w.heap.size w W) : (∀ b o, b < w.heap.size → W.cell? ⟨b, o, none⟩ = w.cell? ⟨b, o, none⟩) ∧ (∀ b o, b < w.heap.size → W.frozen? ⟨b, o, none⟩ = w.frozen? ⟨b, o, none⟩) :=
  ⟨fun b o h => hb.cell (p := ⟨b, o, none⟩) h, fun b o h => hb.frozen (p := ⟨b, o, none⟩) h⟩

end Go.Proofs.YteaphfmgcpanmaaDoor

namespace Go.Proofs.YteaphfmgcpanmaaDoor
set_option linter.unusedVariables false
set_option linter.unusedSimpArgs false
open Go.RowKit Go.Proofs.YteaphfmgcpanmaaDoorW.PrintWords

set_option maxHeartbeats 400000 in
theorem ins_Width (op : Int) (w : World) :
    Calls Tryd.prog 45 #[.int .u8 op] w fun e w' => e = .returned (.int .i64 (Trp.width op)) ∧ w = w' := by
  go_enter Tryd.func45, Tryd.ntmps45
  go_wp2
  all_goals
    go_ret
    refine ⟨ret_int ?_, rfl⟩
    simp only [beq_iff_eq, beq_eq_false_iff_ne, ne_eq] at *
    unfold Trp.width
    repeat (first | rw [if_pos (by omega)] | rw [if_neg (by omega)])

theorem ins_kindBelow (op below : Int) (b : Nat) (w : World) (hc : w.cell? ⟨b, 0, none⟩ = some (.int .u8 op)) :
    Calls Tryd.prog 66 #[.int .u8 below, .pointer (some ⟨b, 0, none⟩)] w fun e w' => e = .returned (.int .u8 (Trp.kindBelow op below)) ∧ w = w' := by
  go_enter Tryd.func66, Tryd.ntmps66
  go_wp2
  all_goals
    go_ret
    refine ⟨ret_int ?_, rfl⟩
    unfold Trp.kindBelow
    first | rw [if_pos (by omega)] | rw [if_neg (by omega)]

def NumericPost (op : Int) (w : World) (e : Ending) (w' : World) : Prop :=
  ∃ v, e = .returned (.tuple #[v, .int .u8 (Trp.numericOut op), .bool (Trp.numericIs op)]) ∧ (Kd.int .u8).R 97 w' w.heap.size (fun _ => True) v (Trp.numericIn op) ∧ Below w.heap.size w w'
theorem NumericPost.lit1 {op : Int} {w : World} {o : Obj} {out x : Int} {is : Bool} (h1 : Trp.numericOut op = out) (h2 : Trp.numericIs op = is) (h3 : Trp.numericIn op = [x]) :
    NumericPost op w (.returned (.tuple #[.slice (some ⟨w.heap.size + 1, 0, none⟩) 1 1, .int .u8 out, .bool is])) ((w.alloc o).alloc (.cells #[.int .u8 x] 97)) := by
  subst h1; subst h2
  exact ⟨_, rfl, h3 ▸ rowLit1 (by simp) (by omega), ((Below.refl _ _).alloc (Nat.le_refl _) _).alloc (by simp) _⟩
theorem NumericPost.lit2 {op : Int} {w : World} {o : Obj} {out x y : Int} {is : Bool} (h1 : Trp.numericOut op = out) (h2 : Trp.numericIs op = is) (h3 : Trp.numericIn op = [x, y]) :
    NumericPost op w (.returned (.tuple #[.slice (some ⟨w.heap.size + 1, 0, none⟩) 2 2, .int .u8 out, .bool is])) ((w.alloc o).alloc (.cells #[.int .u8 x, .int .u8 y] 97)) := by
  subst h1; subst h2
  exact ⟨_, rfl, h3 ▸ rowLit2 (by simp) (by omega), ((Below.refl _ _).alloc (Nat.le_refl _) _).alloc (by simp) _⟩
theorem NumericPost.none {op : Int} {w : World} {o : Obj} {out : Int} {is : Bool} (h1 : Trp.numericOut op = out) (h2 : Trp.numericIs op = is) (h3 : Trp.numericIn op = []) :
    NumericPost op w (.returned (.tuple #[.slice .none 0 0, .int .u8 out, .bool is])) (w.alloc o) := by
  subst h1; subst h2
  exact ⟨_, rfl, h3 ▸ rowNil _ _ _ _, (Below.refl _ _).alloc (Nat.le_refl _) _⟩
set_option maxHeartbeats 1000000 in
theorem ins_numeric (op : Int) (w : World) : Calls Tryd.prog 55 #[.int .u8 op] w (NumericPost op w) := by
  have hb : (w.alloc (.cells #[.int .u8 op] 5)).cell? ⟨w.heap.size, 0, none⟩ = some (.int .u8 op) := by simp [World.cell?_alloc_new]
  have hbs1 := buildKinds1
  have hbs2 := buildKinds2
  go_enter Tryd.func55, Tryd.ntmps55
  go_wp2_with (go_at_call 66; refine (ins_kindBelow op _ _ _ ?_).mono ?_; exact hb; rintro e w' ⟨rfl, rfl⟩)
  all_goals
    go_ret3
    clear hb
    simp only [beq_iff_eq, beq_eq_false_iff_ne, ne_eq] at *
    first | refine NumericPost.lit1 ?_ ?_ ?_ | refine NumericPost.lit2 ?_ ?_ ?_ | refine NumericPost.none ?_ ?_ ?_
    all_goals first
      | (unfold Trp.numericOut; repeat (first | rw [if_pos (by omega)] | rw [if_neg (by omega)]))
      | (unfold Trp.numericIn; repeat (first | rw [if_pos (by omega)] | rw [if_neg (by omega)]))
      | (unfold Trp.numericIs; simp only [Bool.or_eq_true, Bool.or_eq_false_iff, decide_eq_true_eq, decide_eq_false_iff_not]; omega)

end Go.Proofs.YteaphfmgcpanmaaDoor

namespace Go.Proofs.YteaphfmgcpanmaaDoor
set_option linter.unusedVariables false
set_option linter.unusedSimpArgs false
open Go.RowKit Go.Proofs.YteaphfmgcpanmaaDoorW.PrintWords

theorem ins_isIndex (n : Int) (w : World) :
    Calls Tryd.prog 41 #[.int .i64 n] w fun e w' => e = .returned (.bool (Trp.isIndex n)) ∧ w = w' := by
  go_enter Tryd.func41, Tryd.ntmps41
  go_wp2
  all_goals
    go_ret
    refine ⟨ret_bool ?_, rfl⟩
    unfold Trp.isIndex
    simp
    omega

set_option maxHeartbeats 1000000 in
theorem ins_besides (op : Int) (w : World) :
    Calls Tryd.prog 40 #[.int .u8 op] w fun e w' => e = .returned (.int .i64 (Trp.besides op)) ∧ Below w.heap.size w w' := by
  go_enter Tryd.func40, Tryd.ntmps40
  go_wp2_with (first | (go_at_call 45; refine (ins_Width op _).mono ?_; rintro e w' ⟨rfl, rfl⟩) | (go_at_call 55; refine (ins_numeric op _).mono ?_; rintro e w' ⟨v, rfl, hv, hb⟩; clear hv))
  all_goals
    go_ret
    refine ⟨ret_int ?_, by first | exact Below.refl _ _ | assumption⟩
    try simp only [beq_iff_eq, beq_eq_false_iff_ne, ne_eq] at *
    unfold Trp.besides
    repeat (first | rw [if_pos (by omega)] | rw [if_neg (by omega)] | rw [if_pos (by assumption)] | rw [if_neg (by simp_all)])

end Go.Proofs.YteaphfmgcpanmaaDoor

namespace Trp
open Go Go.Lib

def dig : Nat → Nat → List UInt8 → List UInt8
  | 0, _, acc => acc
  | k + 1, u, acc => if u / 10 = 0 then UInt8.ofNat (48 + u % 10) :: acc else dig k (u / 10) (UInt8.ofNat (48 + u % 10) :: acc)
theorem dig_len : ∀ k u acc, (dig k u acc).length ≤ acc.length + k
  | 0, _, _ => by simp [dig]
  | k + 1, u, acc => by
    unfold dig
    split
    · simp
    · have := dig_len k (u / 10) (UInt8.ofNat (48 + u % 10) :: acc)
      rw [List.length_cons] at this; omega
def digB (n : Int) : ByteArray := ⟨(dig 20 n.toNat []).toArray⟩

def rTakes (n : Int) : ByteArray :=
  if n = 69 ∨ (103 ≤ n ∧ n ≤ 105) ∨ n = 192 ∨ n = 193 ∨ n = 64 ∨ n = 40 ∨ (44 ≤ n ∧ n ≤ 47) then ⟨#[105, 62, 105]⟩
  else if n = 80 ∨ n = 167 then ⟨#[108, 62, 105]⟩
  else if (70 ≤ n ∧ n ≤ 79) ∨ (106 ≤ n ∧ n ≤ 120) then ⟨#[105, 105, 62, 105]⟩
  else if 81 ≤ n ∧ n ≤ 90 then ⟨#[108, 108, 62, 105]⟩
  else if (121 ≤ n ∧ n ≤ 123) ∨ (194 ≤ n ∧ n ≤ 196) then ⟨#[108, 62, 108]⟩
  else if 124 ≤ n ∧ n ≤ 138 then ⟨#[108, 108, 62, 108]⟩
  else if n = 172 ∨ n = 173 ∨ n = 41 ∨ (48 ≤ n ∧ n ≤ 53) then ⟨#[105, 62, 108]⟩
  else if n = 54 ∨ n = 58 ∨ n = 59 then ⟨#[105, 105, 62]⟩
  else if n = 55 ∨ (60 ≤ n ∧ n ≤ 62) then ⟨#[105, 108, 62]⟩
  else if n = 63 ∨ n = 65 then ⟨#[62, 105]⟩
  else if n = 66 then ⟨#[62, 108]⟩
  else ⟨#[63]⟩

def rBeside (n : Int) : ByteArray :=
  if 2 ≤ n ∧ n ≤ 4 then ⟨#[107]⟩
  else if n = 12 ∨ n = 13 ∨ n = 16 ∨ (32 ≤ n ∧ n ≤ 36) then ⟨#[97]⟩
  else if n = 14 then ⟨#[116]⟩
  else if n = 17 then ⟨#[97, 122]⟩
  else if 0 < width n then ⟨#[97, 98]⟩
  else if n = 63 ∨ n = 64 then ⟨#[122]⟩
  else if n = 65 then ⟨#[99]⟩
  else if n = 66 then ⟨#[100]⟩
  else if n = 0 ∨ n = 1 ∨ n = 5 ∨ n = 11 ∨ n = 15 ∨ n = 26 ∨ n = 27 ∨ rTakes n ≠ ⟨#[63]⟩ then ⟨#[]⟩
  else ⟨#[63]⟩

def rops (k : Nat) : ByteArray :=
  match k with
  | 0 => ⟨#[44, 52, 52, 44, 52, 53, 44, 52, 56, 44, 52, 57, 44, 53, 56, 44, 54, 48, 44]⟩
  | 1 => ⟨#[44, 52, 54, 44, 52, 55, 44, 53, 48, 44, 53, 49, 44, 53, 57, 44, 54, 49, 44]⟩
  | 2 => ⟨#[44, 52, 48, 44, 53, 50, 44, 53, 51, 44, 53, 52, 44, 54, 50, 44]⟩
  | _ => ⟨#[44, 52, 49, 44, 53, 53, 44]⟩
def rmany (k : Nat) : Int :=
  match k with
  | 0 => 1
  | 1 => 2
  | 2 => 4
  | _ => 8
theorem rops_len (k : Nat) : (rops k).size < 4294967281 := by
  unfold rops; split <;> decide
theorem digB_len (n : Int) : (digB n).size ≤ 20 := by
  have := dig_len 20 n.toNat []
  simp at this; exact this
def rhas (k : Nat) (n : Int) : Bool := Lib.contains (rops k).data.toList (44 :: dig 20 n.toNat [] ++ [44])
theorem rhas_eq (k : Nat) (n : Int) : Lib.contains (rops k).data.toList (((⟨#[44]⟩ : ByteArray) ++ digB n) ++ (⟨#[44]⟩ : ByteArray)).data.toList = rhas k n := by
  have h : (((⟨#[44]⟩ : ByteArray) ++ digB n) ++ (⟨#[44]⟩ : ByteArray)).data.toList = 44 :: dig 20 n.toNat [] ++ [44] := by
    simp only [ByteArray.data_append, Array.toList_append, digB]; rfl
  rw [h]; rfl
def rWidth (n : Int) : Int := if rhas 0 n then 1 else if rhas 1 n then 2 else if rhas 2 n then 4 else if rhas 3 n then 8 else 0

def rFrom (i : Nat) (n : Int) : Int :=
  match i with
  | 0 => rWidth n
  | 1 => if rhas 1 n then 2 else if rhas 2 n then 4 else if rhas 3 n then 8 else 0
  | 2 => if rhas 2 n then 4 else if rhas 3 n then 8 else 0
  | 3 => if rhas 3 n then 8 else 0
  | _ => 0
theorem rFrom_step (i : Nat) (n : Int) (h : i < 4) : rFrom i n = if rhas i n then rmany i else rFrom (i + 1) n := by
  match i, h with
  | 0, _ => rfl
  | 1, _ => rfl
  | 2, _ => rfl
  | 3, _ => rfl
theorem rWidth_all : ∀ n : Fin 256, rWidth (n.val : Int) = width (n.val : Int) := by decide +kernel
theorem rWidth_eq (n : Int) (h0 : 0 ≤ n) (h1 : n ≤ 255) : rWidth n = width n := by
  have := rWidth_all ⟨n.toNat, by omega⟩
  simpa [Int.toNat_of_nonneg h0] using this

def rKinds : List UInt8 → List Int
  | [] => []
  | c :: l => (if c = 105 then 127 else 126) :: rKinds l
theorem rPlain_all : ∀ n : Fin 256, (rTakes (n.val : Int) == ⟨#[63]⟩) = !plainIs (n.val : Int) ∧
    (plainIs (n.val : Int) = true → rKinds (Lib.cut (rTakes (n.val : Int)).data.toList [62]).1 = plainIn (n.val : Int) ∧ rKinds (Lib.cut (rTakes (n.val : Int)).data.toList [62]).2.1 = plainOut (n.val : Int)) := by decide +kernel
end Trp

namespace Go.Proofs
open Go.Shelf
def Tryd.lays144_ren : Go.Shelf.Ren := ⟨fun | 144 => 47 | 143 => 38 | 219 => 39 | 217 => 51 | 225 => 52 | 224 => 53 | 267 => 54 | 266 => 64 | 314 => 65 | n => n, fun | 9 => 9 | 4 => 4 | 3 => 3 | 5 => 5 | 46 => 95 | 146 => 108 | 51 => 107 | n => n, fun | 1 => 0 | n => n⟩
theorem Tryd.lays144 : Go.Proofs.Lays.n144 Tryd.prog Tryd.lays144_ren := {
  mixed := by kernel_rfl
  f143 := Tryd.func38.trans (congrArg some (by kernel_rfl))
  f144 := Tryd.func47.trans (congrArg some (by kernel_rfl))
  f217 := Tryd.func51.trans (congrArg some (by kernel_rfl))
  f219 := Tryd.func39.trans (congrArg some (by kernel_rfl))
  f224 := Tryd.func53.trans (congrArg some (by kernel_rfl))
  f225 := Tryd.func52.trans (congrArg some (by kernel_rfl))
  f266 := Tryd.func64.trans (congrArg some (by kernel_rfl))
  f267 := Tryd.func54.trans (congrArg some (by kernel_rfl))
  f314 := Tryd.func65.trans (congrArg some (by kernel_rfl))
  t3 := Tryd.underlying3
  a3 := Tryd.isAgg3
  z3 := Tryd.sizeOf3
  v3 := Tryd.zeroValue3
  t4 := Tryd.underlying4
  a4 := Tryd.isAgg4
  z4 := Tryd.sizeOf4
  v4 := Tryd.zeroValue4
  t5 := Tryd.underlying5
  a5 := Tryd.isAgg5
  z5 := Tryd.sizeOf5
  v5 := Tryd.zeroValue5
  t9 := Tryd.underlying9
  a9 := Tryd.isAgg9
  z9 := Tryd.sizeOf9
  v9 := Tryd.zeroValue9
  t46 := Tryd.underlying95
  a46 := Tryd.isAgg95
  z46 := Tryd.sizeOf95
  v46 := Tryd.zeroValue95
  t51 := Tryd.underlying107
  a51 := Tryd.isAgg107
  z51 := Tryd.sizeOf107
  v51 := Tryd.zeroValue107
  t146 := Tryd.underlying108
  a146 := Tryd.isAgg108
  z146 := Tryd.sizeOf108
  v146 := Tryd.zeroValue108
  g1 := by kernel_rfl }
def Tryd.lays145_ren : Go.Shelf.Ren := ⟨fun | 145 => 10 | 220 => 24 | 219 => 39 | 217 => 51 | 225 => 52 | 224 => 53 | 267 => 54 | 266 => 64 | 314 => 65 | n => n, fun | 9 => 9 | 4 => 4 | 59 => 35 | 3 => 3 | 5 => 5 | 46 => 95 | 146 => 108 | 51 => 107 | n => n, fun | 1 => 0 | n => n⟩
theorem Tryd.lays145 : Go.Proofs.Lays.n145 Tryd.prog Tryd.lays145_ren := {
  mixed := by kernel_rfl
  f145 := Tryd.func10.trans (congrArg some (by kernel_rfl))
  f217 := Tryd.func51.trans (congrArg some (by kernel_rfl))
  f219 := Tryd.func39.trans (congrArg some (by kernel_rfl))
  f220 := Tryd.func24.trans (congrArg some (by kernel_rfl))
  f224 := Tryd.func53.trans (congrArg some (by kernel_rfl))
  f225 := Tryd.func52.trans (congrArg some (by kernel_rfl))
  f266 := Tryd.func64.trans (congrArg some (by kernel_rfl))
  f267 := Tryd.func54.trans (congrArg some (by kernel_rfl))
  f314 := Tryd.func65.trans (congrArg some (by kernel_rfl))
  t3 := Tryd.underlying3
  a3 := Tryd.isAgg3
  z3 := Tryd.sizeOf3
  v3 := Tryd.zeroValue3
  t4 := Tryd.underlying4
  a4 := Tryd.isAgg4
  z4 := Tryd.sizeOf4
  v4 := Tryd.zeroValue4
  t5 := Tryd.underlying5
  a5 := Tryd.isAgg5
  z5 := Tryd.sizeOf5
  v5 := Tryd.zeroValue5
  t9 := Tryd.underlying9
  a9 := Tryd.isAgg9
  z9 := Tryd.sizeOf9
  v9 := Tryd.zeroValue9
  t46 := Tryd.underlying95
  a46 := Tryd.isAgg95
  z46 := Tryd.sizeOf95
  v46 := Tryd.zeroValue95
  t51 := Tryd.underlying107
  a51 := Tryd.isAgg107
  z51 := Tryd.sizeOf107
  v51 := Tryd.zeroValue107
  t59 := Tryd.underlying35
  a59 := Tryd.isAgg35
  z59 := Tryd.sizeOf35
  v59 := Tryd.zeroValue35
  t146 := Tryd.underlying108
  a146 := Tryd.isAgg108
  z146 := Tryd.sizeOf108
  v146 := Tryd.zeroValue108
  g1 := by kernel_rfl }
def Tryd.lays150_ren : Go.Shelf.Ren := ⟨fun | 150 => 73 | 153 => 76 | 152 => 77 | 226 => 78 | 227 => 79 | 228 => 80 | 137 => 81 | 119 => 82 | 224 => 53 | 225 => 52 | 217 => 51 | 266 => 64 | n => n, fun | 9 => 9 | 4 => 4 | 3 => 3 | 5 => 5 | 21 => 21 | 117 => 126 | 116 => 125 | 0 => 0 | 46 => 95 | 124 => 130 | n => n, fun | n => n⟩
theorem Tryd.lays150 : Go.Proofs.Lays.n150 Tryd.prog Tryd.lays150_ren := {
  mixed := by kernel_rfl
  f119 := Tryd.func82.trans (congrArg some (by kernel_rfl))
  f137 := Tryd.func81.trans (congrArg some (by kernel_rfl))
  f150 := Tryd.func73.trans (congrArg some (by kernel_rfl))
  f152 := Tryd.func77.trans (congrArg some (by kernel_rfl))
  f153 := Tryd.func76.trans (congrArg some (by kernel_rfl))
  f217 := Tryd.func51.trans (congrArg some (by kernel_rfl))
  f224 := Tryd.func53.trans (congrArg some (by kernel_rfl))
  f225 := Tryd.func52.trans (congrArg some (by kernel_rfl))
  f226 := Tryd.func78.trans (congrArg some (by kernel_rfl))
  f227 := Tryd.func79.trans (congrArg some (by kernel_rfl))
  f228 := Tryd.func80.trans (congrArg some (by kernel_rfl))
  f266 := Tryd.func64.trans (congrArg some (by kernel_rfl))
  t0 := Tryd.underlying0
  a0 := Tryd.isAgg0
  z0 := Tryd.sizeOf0
  v0 := Tryd.zeroValue0
  t3 := Tryd.underlying3
  a3 := Tryd.isAgg3
  z3 := Tryd.sizeOf3
  v3 := Tryd.zeroValue3
  t4 := Tryd.underlying4
  a4 := Tryd.isAgg4
  z4 := Tryd.sizeOf4
  v4 := Tryd.zeroValue4
  t5 := Tryd.underlying5
  a5 := Tryd.isAgg5
  z5 := Tryd.sizeOf5
  v5 := Tryd.zeroValue5
  t9 := Tryd.underlying9
  a9 := Tryd.isAgg9
  z9 := Tryd.sizeOf9
  v9 := Tryd.zeroValue9
  t21 := Tryd.underlying21
  a21 := Tryd.isAgg21
  z21 := Tryd.sizeOf21
  v21 := Tryd.zeroValue21
  t46 := Tryd.underlying95
  a46 := Tryd.isAgg95
  z46 := Tryd.sizeOf95
  v46 := Tryd.zeroValue95
  t116 := Tryd.underlying125
  a116 := Tryd.isAgg125
  z116 := Tryd.sizeOf125
  t117 := Tryd.underlying126
  a117 := Tryd.isAgg126
  z117 := Tryd.sizeOf126
  v117 := Tryd.zeroValue126
  t124 := Tryd.underlying130
  a124 := Tryd.isAgg130
  z124 := Tryd.sizeOf130
  v124 := Tryd.zeroValue130 }
def Tryd.lays146_ren : Go.Shelf.Ren := ⟨fun | 146 => 9 | 221 => 23 | 268 => 36 | 138 => 37 | 143 => 38 | 195 => 48 | 197 => 49 | 218 => 50 | 219 => 39 | 260 => 63 | 217 => 51 | 225 => 52 | 224 => 53 | 267 => 54 | 266 => 64 | 314 => 65 | n => n, fun | 9 => 9 | 31 => 33 | 3 => 3 | 4 => 4 | 0 => 0 | 105 => 91 | 21 => 21 | 5 => 5 | 46 => 95 | 119 => 116 | 139 => 119 | 138 => 118 | 146 => 108 | 51 => 107 | n => n, fun | 1 => 0 | 3 => 2 | 4 => 3 | n => n⟩
theorem Tryd.lays146 : Go.Proofs.Lays.n146 Tryd.prog Tryd.lays146_ren := {
  mixed := by kernel_rfl
  f138 := Tryd.func37.trans (congrArg some (by kernel_rfl))
  f143 := Tryd.func38.trans (congrArg some (by kernel_rfl))
  f146 := Tryd.func9.trans (congrArg some (by kernel_rfl))
  f195 := Tryd.func48.trans (congrArg some (by kernel_rfl))
  f197 := Tryd.func49.trans (congrArg some (by kernel_rfl))
  f217 := Tryd.func51.trans (congrArg some (by kernel_rfl))
  f218 := Tryd.func50.trans (congrArg some (by kernel_rfl))
  f219 := Tryd.func39.trans (congrArg some (by kernel_rfl))
  f221 := Tryd.func23.trans (congrArg some (by kernel_rfl))
  f224 := Tryd.func53.trans (congrArg some (by kernel_rfl))
  f225 := Tryd.func52.trans (congrArg some (by kernel_rfl))
  f260 := Tryd.func63.trans (congrArg some (by kernel_rfl))
  f266 := Tryd.func64.trans (congrArg some (by kernel_rfl))
  f267 := Tryd.func54.trans (congrArg some (by kernel_rfl))
  f268 := Tryd.func36.trans (congrArg some (by kernel_rfl))
  f314 := Tryd.func65.trans (congrArg some (by kernel_rfl))
  t0 := Tryd.underlying0
  a0 := Tryd.isAgg0
  z0 := Tryd.sizeOf0
  v0 := Tryd.zeroValue0
  t3 := Tryd.underlying3
  a3 := Tryd.isAgg3
  z3 := Tryd.sizeOf3
  v3 := Tryd.zeroValue3
  t4 := Tryd.underlying4
  a4 := Tryd.isAgg4
  z4 := Tryd.sizeOf4
  v4 := Tryd.zeroValue4
  t5 := Tryd.underlying5
  a5 := Tryd.isAgg5
  z5 := Tryd.sizeOf5
  v5 := Tryd.zeroValue5
  t9 := Tryd.underlying9
  a9 := Tryd.isAgg9
  z9 := Tryd.sizeOf9
  v9 := Tryd.zeroValue9
  t21 := Tryd.underlying21
  a21 := Tryd.isAgg21
  z21 := Tryd.sizeOf21
  v21 := Tryd.zeroValue21
  t31 := Tryd.underlying33
  a31 := Tryd.isAgg33
  z31 := Tryd.sizeOf33
  v31 := Tryd.zeroValue33
  t46 := Tryd.underlying95
  a46 := Tryd.isAgg95
  z46 := Tryd.sizeOf95
  v46 := Tryd.zeroValue95
  t51 := Tryd.underlying107
  a51 := Tryd.isAgg107
  z51 := Tryd.sizeOf107
  v51 := Tryd.zeroValue107
  t105 := Tryd.underlying91
  a105 := Tryd.isAgg91
  z105 := Tryd.sizeOf91
  v105 := Tryd.zeroValue91
  t119 := Tryd.underlying116
  a119 := Tryd.isAgg116
  z119 := Tryd.sizeOf116
  t138 := Tryd.underlying118
  a138 := Tryd.isAgg118
  z138 := Tryd.sizeOf118
  v138 := Tryd.zeroValue118
  t139 := Tryd.underlying119
  a139 := Tryd.isAgg119
  z139 := Tryd.sizeOf119
  v139 := Tryd.zeroValue119
  t146 := Tryd.underlying108
  a146 := Tryd.isAgg108
  z146 := Tryd.sizeOf108
  v146 := Tryd.zeroValue108
  g1 := by kernel_rfl
  g3 := by kernel_rfl
  g4 := by kernel_rfl }
def Tryd.lays170_ren : Go.Shelf.Ren := ⟨fun | 170 => 17 | n => n, fun | 70 => 39 | 3 => 3 | 0 => 0 | 72 => 42 | 37 => 40 | 5 => 5 | n => n, fun | n => n⟩
theorem Tryd.lays170 : Go.Proofs.Lays.n170 Tryd.prog Tryd.lays170_ren := {
  mixed := by kernel_rfl
  f170 := Tryd.func17.trans (congrArg some (by kernel_rfl))
  t0 := Tryd.underlying0
  a0 := Tryd.isAgg0
  z0 := Tryd.sizeOf0
  v0 := Tryd.zeroValue0
  t3 := Tryd.underlying3
  a3 := Tryd.isAgg3
  z3 := Tryd.sizeOf3
  v3 := Tryd.zeroValue3
  t37 := Tryd.underlying40
  a37 := Tryd.isAgg40
  z37 := Tryd.sizeOf40
  v37 := Tryd.zeroValue40
  t70 := Tryd.underlying39
  a70 := Tryd.isAgg39
  z70 := Tryd.sizeOf39
  v70 := Tryd.zeroValue39
  t72 := Tryd.underlying42
  a72 := Tryd.isAgg42
  z72 := Tryd.sizeOf42
  v72 := Tryd.zeroValue42 }
def Tryd.lays169_ren : Go.Shelf.Ren := ⟨fun | 169 => 18 | n => n, fun | 70 => 39 | 9 => 9 | 0 => 0 | 72 => 42 | 37 => 40 | 127 => 73 | 3 => 3 | 5 => 5 | n => n, fun | n => n⟩
theorem Tryd.lays169 : Go.Proofs.Lays.n169 Tryd.prog Tryd.lays169_ren := {
  mixed := by kernel_rfl
  f169 := Tryd.func18.trans (congrArg some (by kernel_rfl))
  t0 := Tryd.underlying0
  a0 := Tryd.isAgg0
  z0 := Tryd.sizeOf0
  v0 := Tryd.zeroValue0
  t3 := Tryd.underlying3
  a3 := Tryd.isAgg3
  z3 := Tryd.sizeOf3
  v3 := Tryd.zeroValue3
  t9 := Tryd.underlying9
  a9 := Tryd.isAgg9
  z9 := Tryd.sizeOf9
  v9 := Tryd.zeroValue9
  t37 := Tryd.underlying40
  a37 := Tryd.isAgg40
  z37 := Tryd.sizeOf40
  v37 := Tryd.zeroValue40
  t70 := Tryd.underlying39
  a70 := Tryd.isAgg39
  z70 := Tryd.sizeOf39
  v70 := Tryd.zeroValue39
  t72 := Tryd.underlying42
  a72 := Tryd.isAgg42
  z72 := Tryd.sizeOf42
  v72 := Tryd.zeroValue42
  t127 := Tryd.underlying73
  a127 := Tryd.isAgg73
  z127 := Tryd.sizeOf73
  v127 := Tryd.zeroValue73 }
def Tryd.lays156_ren : Go.Shelf.Ren := ⟨fun | 156 => 14 | 165 => 29 | 166 => 13 | 169 => 18 | 240 => 28 | 241 => 43 | 276 => 42 | 277 => 56 | n => n, fun | 31 => 33 | 9 => 9 | 3 => 3 | 4 => 4 | 0 => 0 | 20 => 20 | 72 => 42 | 76 => 48 | 70 => 39 | 37 => 40 | 75 => 47 | 127 => 73 | 164 => 81 | 5 => 5 | 80 => 54 | n => n, fun | n => n⟩
theorem Tryd.lays156 : Go.Proofs.Lays.n156 Tryd.prog Tryd.lays156_ren := {
  mixed := by kernel_rfl
  f156 := Tryd.func14.trans (congrArg some (by kernel_rfl))
  f165 := Tryd.func29.trans (congrArg some (by kernel_rfl))
  f166 := Tryd.func13.trans (congrArg some (by kernel_rfl))
  f169 := Tryd.func18.trans (congrArg some (by kernel_rfl))
  f240 := Tryd.func28.trans (congrArg some (by kernel_rfl))
  f241 := Tryd.func43.trans (congrArg some (by kernel_rfl))
  f276 := Tryd.func42.trans (congrArg some (by kernel_rfl))
  f277 := Tryd.func56.trans (congrArg some (by kernel_rfl))
  t0 := Tryd.underlying0
  a0 := Tryd.isAgg0
  z0 := Tryd.sizeOf0
  v0 := Tryd.zeroValue0
  t3 := Tryd.underlying3
  a3 := Tryd.isAgg3
  z3 := Tryd.sizeOf3
  v3 := Tryd.zeroValue3
  t4 := Tryd.underlying4
  a4 := Tryd.isAgg4
  z4 := Tryd.sizeOf4
  v4 := Tryd.zeroValue4
  t9 := Tryd.underlying9
  a9 := Tryd.isAgg9
  z9 := Tryd.sizeOf9
  v9 := Tryd.zeroValue9
  t20 := Tryd.underlying20
  a20 := Tryd.isAgg20
  z20 := Tryd.sizeOf20
  v20 := Tryd.zeroValue20
  t31 := Tryd.underlying33
  a31 := Tryd.isAgg33
  z31 := Tryd.sizeOf33
  v31 := Tryd.zeroValue33
  t37 := Tryd.underlying40
  a37 := Tryd.isAgg40
  z37 := Tryd.sizeOf40
  v37 := Tryd.zeroValue40
  t70 := Tryd.underlying39
  a70 := Tryd.isAgg39
  z70 := Tryd.sizeOf39
  v70 := Tryd.zeroValue39
  t72 := Tryd.underlying42
  a72 := Tryd.isAgg42
  z72 := Tryd.sizeOf42
  v72 := Tryd.zeroValue42
  t75 := Tryd.underlying47
  a75 := Tryd.isAgg47
  z75 := Tryd.sizeOf47
  v75 := Tryd.zeroValue47
  t76 := Tryd.underlying48
  a76 := Tryd.isAgg48
  z76 := Tryd.sizeOf48
  v76 := Tryd.zeroValue48
  t127 := Tryd.underlying73
  a127 := Tryd.isAgg73
  z127 := Tryd.sizeOf73
  v127 := Tryd.zeroValue73
  t164 := Tryd.underlying81
  a164 := Tryd.isAgg81
  z164 := Tryd.sizeOf81
  v164 := Tryd.zeroValue81 }
def Tryd.laysM173_ren : Go.Shelf.Ren := ⟨fun | 173 => 31 | 246 => 44 | 283 => 57 | 284 => 58 | 285 => 59 | 286 => 60 | 129 => 68 | 317 => 67 | 318 => 69 | 319 => 70 | 320 => 71 | 337 => 74 | 338 => 75 | n => n, fun | 2 => 2 | 3 => 3 | 9 => 9 | 4 => 4 | 171 => 101 | 0 => 0 | 53 => 60 | 37 => 40 | 5 => 5 | 173 => 104 | 212 => 112 | 51 => 107 | 20 => 20 | 213 => 113 | 46 => 95 | 232 => 121 | 233 => 122 | n => n, fun | 17 => 1 | 18 => 4 | 19 => 5 | n => n⟩
theorem Tryd.laysM173 : Go.Proofs.LaysM.n173 Tryd.prog Tryd.laysM173_ren := {
  mixed := by kernel_rfl
  f129 := Tryd.func68.trans (congrArg some (by kernel_rfl))
  f173 := Tryd.func31.trans (congrArg some (by kernel_rfl))
  f246 := Tryd.func44.trans (congrArg some (by kernel_rfl))
  f283 := Tryd.func57.trans (congrArg some (by kernel_rfl))
  f284 := Tryd.func58.trans (congrArg some (by kernel_rfl))
  f285 := Tryd.func59.trans (congrArg some (by kernel_rfl))
  f286 := Tryd.func60.trans (congrArg some (by kernel_rfl))
  f317 := Tryd.func67.trans (congrArg some (by kernel_rfl))
  f318 := Tryd.func69.trans (congrArg some (by kernel_rfl))
  f319 := Tryd.func70.trans (congrArg some (by kernel_rfl))
  f320 := Tryd.func71.trans (congrArg some (by kernel_rfl))
  f337 := Tryd.func74.trans (congrArg some (by kernel_rfl))
  f338 := Tryd.func75.trans (congrArg some (by kernel_rfl))
  t0 := Tryd.underlying0
  a0 := Tryd.isAgg0
  z0 := Tryd.sizeOf0
  v0 := Tryd.zeroValue0
  t2 := Tryd.underlying2
  a2 := Tryd.isAgg2
  z2 := Tryd.sizeOf2
  v2 := Tryd.zeroValue2
  t3 := Tryd.underlying3
  a3 := Tryd.isAgg3
  z3 := Tryd.sizeOf3
  v3 := Tryd.zeroValue3
  t4 := Tryd.underlying4
  a4 := Tryd.isAgg4
  z4 := Tryd.sizeOf4
  v4 := Tryd.zeroValue4
  t5 := Tryd.underlying5
  a5 := Tryd.isAgg5
  z5 := Tryd.sizeOf5
  v5 := Tryd.zeroValue5
  t9 := Tryd.underlying9
  a9 := Tryd.isAgg9
  z9 := Tryd.sizeOf9
  v9 := Tryd.zeroValue9
  t20 := Tryd.underlying20
  a20 := Tryd.isAgg20
  z20 := Tryd.sizeOf20
  v20 := Tryd.zeroValue20
  t37 := Tryd.underlying40
  a37 := Tryd.isAgg40
  z37 := Tryd.sizeOf40
  v37 := Tryd.zeroValue40
  t46 := Tryd.underlying95
  a46 := Tryd.isAgg95
  z46 := Tryd.sizeOf95
  v46 := Tryd.zeroValue95
  t51 := Tryd.underlying107
  a51 := Tryd.isAgg107
  z51 := Tryd.sizeOf107
  v51 := Tryd.zeroValue107
  t53 := Tryd.underlying60
  a53 := Tryd.isAgg60
  z53 := Tryd.sizeOf60
  v53 := Tryd.zeroValue60
  t171 := Tryd.underlying101
  a171 := Tryd.isAgg101
  z171 := Tryd.sizeOf101
  v171 := Tryd.zeroValue101
  t173 := Tryd.underlying104
  a173 := Tryd.isAgg104
  z173 := Tryd.sizeOf104
  v173 := Tryd.zeroValue104
  t212 := Tryd.underlying112
  a212 := Tryd.isAgg112
  z212 := Tryd.sizeOf112
  v212 := Tryd.zeroValue112
  t213 := Tryd.underlying113
  a213 := Tryd.isAgg113
  z213 := Tryd.sizeOf113
  t232 := Tryd.underlying121
  a232 := Tryd.isAgg121
  z232 := Tryd.sizeOf121
  v232 := Tryd.zeroValue121
  t233 := Tryd.underlying122
  a233 := Tryd.isAgg122
  z233 := Tryd.sizeOf122
  v233 := Tryd.zeroValue122
  g17 := by kernel_rfl
  g18 := by kernel_rfl
  g19 := by kernel_rfl
  i0 := by kernel_rfl
  i2 := by kernel_rfl
  i3 := by kernel_rfl
  i4 := by kernel_rfl
  i5 := by kernel_rfl
  i9 := by kernel_rfl
  i20 := by kernel_rfl
  i37 := by kernel_rfl
  i46 := by kernel_rfl
  i51 := by kernel_rfl
  i53 := by kernel_rfl
  i171 := by kernel_rfl
  i173 := by kernel_rfl
  i212 := by kernel_rfl
  i232 := by kernel_rfl
  i233 := by kernel_rfl
  m17 := by kernel_rfl
  m18 := by kernel_rfl
  m19 := by kernel_rfl }
end Go.Proofs

namespace Go.Proofs
open Go.Shelf Go.RowKit Go.Lib
theorem Tryd.strings_Contains (s sub : ByteArray) (m : Int) (w : World) (hs : s.size < 4294967281) (hm : w.cell? ⟨0, 0, none⟩ = some (.int .i64 m)) :
    Calls Tryd.prog 47 #[.string s, .string sub] w fun e w' => e = .returned (.bool (Lib.contains s.data.toList sub.data.toList)) ∧ w' = w := Any.strings_Contains Tryd.lays144 s sub m w hs hm
theorem Tryd.strings_Cut (s sep : ByteArray) (m : Int) (w : World) (hs : s.size < 4294967281) (hm : w.cell? ⟨0, 0, none⟩ = some (.int .i64 m)) :
    Calls Tryd.prog 10 #[.string s, .string sep] w fun e w' => e = .returned (.tuple #[.string ⟨(Lib.cut s.data.toList sep.data.toList).1.toArray⟩, .string ⟨(Lib.cut s.data.toList sep.data.toList).2.1.toArray⟩, .bool (Lib.cut s.data.toList sep.data.toList).2.2]) ∧ ∃ n, w' = w.drewN n := Any.strings_Cut Tryd.lays145 s sep m w hs hm
theorem Tryd.strings_ContainsAny (s chars : ByteArray) (w : World) (hs : s.size < 4294967281) (hcs : chars.size < 4294967281) (has : ∀ (j : Nat) b, s.data.toList[j]? = some b → b.toNat < 128) (hac : ∀ (j : Nat) b, chars.data.toList[j]? = some b → b.toNat < 128) :
    Calls Tryd.prog 73 #[.string s, .string chars] w fun e w' => e = .returned (.bool (Lib.containsAny s.data.toList chars.data.toList)) ∧ Below w.heap.size w w' := Any.strings_ContainsAny_laid Tryd.lays150 (by kernel_rfl) s chars w hs hcs has hac
end Go.Proofs

namespace Go.Proofs.YteaphfmgcpanmaaDoor
set_option linter.unusedVariables false
set_option linter.unusedSimpArgs false
open Go.RowKit Go.Proofs.YteaphfmgcpanmaaDoorW.PrintWords

theorem ret_str {a b : ByteArray} (h : a = b) : Ending.returned (.string a) = .returned (.string b) := by rw [h]

theorem infoU8b : (Tryd.prog.info? 5).map (fun i => (i.zero, i.size, i.bytes)) = some (some (.int .u8 0), 1, 1) := by kernel_rfl
theorem buildByte (x : Int) (W : World) : (Instr.buildSlice 40 1 #[(0, .int .u8 x)]).run Tryd.prog W = .ok (.slice (some ⟨W.heap.size, 0, none⟩) 1 1) (W.alloc (.cells #[.int .u8 x] 5)) := by
  obtain ⟨ie, hie, hz⟩ := Option.map_eq_some_iff.1 infoU8b
  simp only [Prod.mk.injEq] at hz
  obtain ⟨hz0, hz1, _⟩ := hz
  refine run_buildSlice W _ _ 1 _ _ ie _ Tryd.underlying40 hie hz0 (by rw [hz1]; omega) (by rw [hz1]; omega) ?_
  rw [show (#[(0, Value.int .u8 x)] : Array (Nat × Value)).toList = ((([x] : List Int).map (Value.int .u8)).zipIdx 0).map fun x => (x.2, x.1) from rfl, hz1]
  exact Great.fill_flat _ _ (fun v hv => by obtain ⟨n, _, rfl⟩ := List.mem_map.1 hv; rfl) (by simp)

theorem ref_chr (a : Int) (w : World) :
    Calls Tryd.prog 22 #[.int .i64 a] w fun e w' => e = .returned (.string ⟨#[UInt8.ofNat (a % 256).toNat]⟩) ∧ Below w.heap.size w w' := by
  have hb := fun W => buildByte (a % 256) W
  have hR := Kd.own_of_R (rowLit1 (W := w) (base := w.heap.size) (e := 5) (k := .u8) (x := a % 256) rfl (Nat.le_refl _))
  have hcv := own_string (P := Tryd.prog) Tryd.underlying40 Tryd.underlying5 Tryd.underlying9 hR
  go_enter Tryd.func22, Tryd.ntmps22
  go_wp2
  go_ret
  exact ⟨rfl, (Below.refl _ _).alloc (Nat.le_refl _) _⟩

theorem strNum1 (x : Int) : strOfNums [x] = ⟨#[UInt8.ofNat x.toNat]⟩ := rfl
theorem app1 (c : UInt8) (l : List UInt8) : (⟨#[c]⟩ : ByteArray) ++ ⟨l.toArray⟩ = ⟨(c :: l).toArray⟩ := by
  apply ByteArray.ext; simp
theorem sz1 (c : UInt8) (l : List UInt8) : (⟨(c :: l).toArray⟩ : ByteArray).size = l.length + 1 := rfl
theorem sz0 (c : UInt8) : (⟨#[c]⟩ : ByteArray).size = 1 := rfl
theorem szn : (⟨#[]⟩ : ByteArray).size = 0 := rfl
theorem bsize (l : List UInt8) : (⟨l.toArray⟩ : ByteArray).size = l.length := rfl

set_option maxHeartbeats 1000000 in
theorem ref_digits (n : Int) (h0 : 0 ≤ n) (h1 : n ≤ 9223372036854775807) (w : World) :
    Calls Tryd.prog 11 #[.int .i64 n] w fun e w' => e = .returned (.string (Trp.digB n)) ∧ Below w.heap.size w w' := by
  have hneg : ¬ n < 0 := by omega
  have hbl : decide (n < 0) = false := decide_eq_false hneg
  obtain ⟨r, hr⟩ : ∃ r, Trp.dig 20 n.toNat [] = r := ⟨_, rfl⟩
  have hpost : Trp.digB n = ⟨r.toArray⟩ := by unfold Trp.digB; rw [hr]
  rw [hpost]
  clear hpost
  have hrl : r.length ≤ 20 := by
    rw [← hr]; exact Trp.dig_len 20 _ []
  have hu : IntKind.u64.wrap n = n := by unfold IntKind.wrap; simp [IntKind.bits]; omega
  go_enter Tryd.func11, Tryd.ntmps11
  go_wp2
  go_loopg [3, 5] 19 (fun k v3 v5 w' => ∃ (u : Int) (acc : List UInt8), v3 = .int .u64 u ∧ v5 = .string ⟨acc.toArray⟩ ∧ Aside0 (0 ≤ u ∧ u < 18446744073709551616 ∧ Trp.dig (k + 1) u.toNat acc = r ∧ acc.length + k = 19 ∧ (u.toNat < 10 ^ (k + 1))) ∧ Aside0 (Below w.heap.size w w'))
  case atStart => exact ⟨n, [], rfl, rfl, ⟨h0, by omega, hr, rfl, by omega⟩, ⟨Below.refl _ _⟩⟩
  case round =>
    obtain ⟨u, acc, rfl, rfl, H, HB⟩ := hrel
    obtain ⟨hu0, hu1, hd, hl, hp⟩ := H.out
    obtain ⟨t, ht⟩ : ∃ t, (⟨#[UInt8.ofNat (wrap64 (IntKind.u64.wrap (48 + Int.tmod u 10)) % 256).toNat]⟩ : ByteArray) = t := ⟨_, rfl⟩
    obtain ⟨q, hq⟩ : ∃ q, IntKind.u64.wrap (Int.tdiv u 10) = q := ⟨_, rfl⟩
    have hq' : q = u / 10 := by
      rw [← hq, Int.tdiv_eq_ediv_of_nonneg hu0]; unfold IntKind.wrap; simp [IntKind.bits]; omega
    have ht' : t = ⟨#[UInt8.ofNat (48 + u.toNat % 10)]⟩ := by
      rw [← ht]
      have : (wrap64 (IntKind.u64.wrap (48 + Int.tmod u 10)) % 256).toNat = 48 + u.toNat % 10 := by
        rw [Int.tmod_eq_emod_of_nonneg hu0]; unfold IntKind.wrap wrap64; simp [IntKind.bits]; omega
      rw [this]
    have hs3 : ¬ (9223372036854775807 < t.size + acc.length) := by rw [ht', sz0]; omega
    have hs1 : (t.size + (⟨acc.toArray⟩ : ByteArray).size ≤ 9223372036854775807) = True := eq_true (by rw [ht', sz0, bsize]; omega)
    have happ : t ++ (⟨acc.toArray⟩ : ByteArray) = ⟨(UInt8.ofNat (48 + u.toNat % 10) :: acc).toArray⟩ := by rw [ht', app1]
    obtain ⟨s, hs⟩ : ∃ s, t ++ (⟨acc.toArray⟩ : ByteArray) = s := ⟨_, rfl⟩
    rw [hs] at happ
    rw [Trp.dig] at hd
    have hqn : q.toNat = u.toNat / 10 := by omega
    have hs2 : ¬ (9223372036854775807 < s.size) := by rw [happ, sz1]; omega
    have HA := Aside0.mk happ
    have HT := Aside0.mk ht'
    have HD := Aside0.mk hd
    by_cases c : q = 0
    · have hz : u.toNat / 10 = 0 := by omega
      have c1 : (q == 0) = true := beq_iff_eq.mpr c
      clear hp hqn hq' ht' hl hu1 hu0 H happ hd c
      go_wp2_with (go_at_call 22; refine (ref_chr _ _).mono ?_; rintro e w2 ⟨rfl, hb⟩; rw [ht])
      go_ret
      have hd := HD.out
      rw [if_pos hz] at hd
      exact ⟨ret_str (by rw [HA.out, hd]; apply ByteArray.ext; simp), below_step HB.out hb⟩
    · have hz : ¬ u.toNat / 10 = 0 := by omega
      have c1 : (q == 0) = false := beq_eq_false_iff_ne.mpr c
      have hgk : gk ≠ 0 := by
        rintro rfl; omega
      have hp' : q.toNat < 10 ^ gk := by
        have : (10 : Nat) ^ (gk + 1) = 10 ^ gk * 10 := Nat.pow_succ ..
        omega
      have hq0 : 0 ≤ q ∧ q < 18446744073709551616 := by omega
      have HN := Aside0.mk hqn
      have HP := Aside0.mk hp'
      have HZ := Aside0.mk hz
      have HQ := Aside0.mk hq0
      clear hz hq0 hp hqn hq' ht' hu1 hu0 H happ hd c hp'
      go_wp2_with (go_at_call 22; refine (ref_chr _ _).mono ?_; rintro e w2 ⟨rfl, hb⟩; rw [ht])
      go_roundg (gk - 1)
      case measure => omega
      case rel =>
        have hd := HD.out
        rw [if_neg HZ.out] at hd
        have hq0 := HQ.out
        refine ⟨q, UInt8.ofNat (48 + u.toNat % 10) :: acc, rfl, by rw [HA.out], ⟨hq0.1, hq0.2, ?_, ?_, ?_⟩, ⟨below_step HB.out hb⟩⟩
        · rw [show gk - 1 + 1 = gk by omega, HN.out]; exact hd
        · rw [List.length_cons]; omega
        · rw [show gk - 1 + 1 = gk by omega]; exact HP.out
end Go.Proofs.YteaphfmgcpanmaaDoor

namespace Go.Proofs.YteaphfmgcpanmaaDoor
set_option linter.unusedVariables false
set_option linter.unusedSimpArgs false
open Go.RowKit Go.Proofs.YteaphfmgcpanmaaDoorW.PrintWords

set_option maxHeartbeats 1000000 in
theorem ref_takes (op : Int) (h0 : 0 ≤ op) (h1 : op ≤ 255) (w : World) :
    Calls Tryd.prog 35 #[.int .u8 op] w fun e w' => e = .returned (.string (Trp.rTakes op)) ∧ w = w' := by
  have hw : wrap64 op = op := by unfold wrap64; omega
  go_enter Tryd.func35, Tryd.ntmps35
  go_wp2
  all_goals
    go_ret
    refine ⟨ret_str ?_, rfl⟩
    simp only [hw, beq_iff_eq, beq_eq_false_iff_ne, ne_eq] at *
    unfold Trp.rTakes
    repeat (first | rw [if_pos (by omega)] | rw [if_neg (by omega)])
end Go.Proofs.YteaphfmgcpanmaaDoor

namespace Go.Proofs.YteaphfmgcpanmaaDoor
set_option linter.unusedVariables false
set_option linter.unusedSimpArgs false
open Go.RowKit Go.Proofs.YteaphfmgcpanmaaDoorW.PrintWords

theorem wi64 (n : Int) : IntKind.i64.wrap n = wrap64 n := by unfold Go.RowKit.wrap64; exact IntKind.wrap_i64 n
/-- the library's variable MaxLen holds some number -/
def Gl (w : World) : Prop := ∃ m, w.cell? ⟨0, 0, none⟩ = some (.int .i64 m)
theorem Gl.below {w w' : World} (h : Gl w) (hb : Below w.heap.size w w') : Gl w' := by
  obtain ⟨m, hm⟩ := h
  exact ⟨m, (hb.cell (p := ⟨0, 0, none⟩) (World.block_lt_of_cell? w ⟨0, 0, none⟩ hm)).trans hm⟩

set_option maxHeartbeats 1000000 in
set_option maxRecDepth 100000 in
theorem ref_InsWidth (op : Int) (h0 : 0 ≤ op) (h1 : op ≤ 255) (w : World) (hG : Gl w) :
    Calls Tryd.prog 34 #[.int .u8 op] w fun e w' => e = .returned (.int .i64 (Trp.width op)) ∧ Below w.heap.size w w' := by
  rw [← Trp.rWidth_eq op h0 h1]
  go_enter Tryd.func34, Tryd.ntmps34
  go_wp2
  generalize hW1 : w.alloc (.cells #[.int .i64 1, .string ⟨#[44, 52, 52, 44, 52, 53, 44, 52, 56, 44, 52, 57, 44, 53, 56, 44, 54, 48, 44]⟩, .int .i64 2, .string ⟨#[44, 52, 54, 44, 52, 55, 44, 53, 48, 44, 53, 49, 44, 53, 57, 44, 54, 49, 44]⟩, .int .i64 4, .string ⟨#[44, 52, 48, 44, 53, 50, 44, 53, 51, 44, 53, 52, 44, 54, 50, 44]⟩, .int .i64 8, .string ⟨#[44, 52, 49, 44, 53, 53, 44]⟩] 87) = W1
  have hB1 : Below w.heap.size w W1 := hW1 ▸ (Below.refl _ _).alloc (Nat.le_refl _) _
  have hs1 : W1.heap.size = w.heap.size + 1 := by rw [← hW1]; simp
  have hc (i : Nat) : W1.cell? ⟨w.heap.size, i, none⟩ = _ := hW1 ▸ blk_cell (heap_alloc_new w _) i
  have hcell : ∀ j, j < 4 → W1.cell? ⟨w.heap.size, j * 2, none⟩ = some (.int .i64 (Trp.rmany j)) ∧ W1.cell? ⟨w.heap.size, j * 2 + 1, none⟩ = some (.string (Trp.rops j)) := by
    intro j hj
    match j, hj with
    | 0, _ => exact ⟨hc 0, hc 1⟩
    | 1, _ => exact ⟨hc 2, hc 3⟩
    | 2, _ => exact ⟨hc 4, hc 5⟩
    | 3, _ => exact ⟨hc 6, hc 7⟩
  clear hc
  have HC := Aside0.mk hcell
  have HB1 := Aside0.mk hB1
  obtain ⟨g, hg⟩ : ∃ g, w.heap.size = g := ⟨_, rfl⟩
  have HW := Aside0.mk hW1
  clear hcell hB1 hW1
  rw [hg] at HC
  simp only [hg]
  go_loopg [11] 4 (fun k v11 w' => ∃ (i : Nat), v11 = .int .i64 (i : Int) ∧ Aside0 (i + k = 4 ∧ Trp.rFrom i op = Trp.rWidth op) ∧ Aside0 (Below W1.heap.size W1 w'))
  case atStart => exact ⟨0, rfl, ⟨rfl, rfl⟩, ⟨Below.refl _ _⟩⟩
  case round =>
    obtain ⟨i, rfl, H, HB⟩ := hrel
    obtain ⟨hk, hr⟩ := H.out
    by_cases c : i < 4
    · have hlt : (i : Int) < 4 := by omega
      obtain ⟨f0, f1⟩ := HC.out i c
      replace f0 := (HB.out.cell (p := ⟨g, i * 2, none⟩) (by show g < _; omega)).trans f0
      replace f1 := (HB.out.cell (p := ⟨g, i * 2 + 1, none⟩) (by show g < _; omega)).trans f1
      go_upto_region 4 with (fail)
      generalize hW2 : wr.alloc (.cells #[.int .i64 (Trp.rmany i), .string (Trp.rops i)] 87) = W2
      have e0 : W2.cell? ⟨wr.heap.size, 0, none⟩ = some (.int .i64 (Trp.rmany i)) := hW2 ▸ blk_cell (heap_alloc_new wr _) 0
      have e1 : W2.cell? ⟨wr.heap.size, 1, none⟩ = some (.string (Trp.rops i)) := hW2 ▸ blk_cell (heap_alloc_new wr _) 1
      have hB2 : Below W1.heap.size W1 W2 := hW2 ▸ HB.out.alloc HB.out.size _
      obtain ⟨m, hm⟩ : Gl W2 := (hG.below HB1.out).below hB2
      have hlt2 : wr.heap.size < W2.heap.size := by rw [← hW2]; simp
      obtain ⟨q, hq⟩ : ∃ q, wr.heap.size = q := ⟨_, rfl⟩
      rw [hq] at e0 e1 hlt2
      simp only [hq]
      have HQ := Aside0.mk hq
      have HB2 := Aside0.mk hB2
      have HR := Aside0.mk hr
      clear hq hW2 hB2 f0 f1 H hr hG HB
      have hw : wrap64 op = op := by unfold wrap64; omega
      obtain ⟨d, hd⟩ : ∃ d, Trp.digB op = d := ⟨_, rfl⟩
      have hdl : d.size ≤ 20 := by rw [← hd]; exact Trp.digB_len op
      obtain ⟨s1, hs1'⟩ : ∃ s1, (⟨#[44]⟩ : ByteArray) ++ d = s1 := ⟨_, rfl⟩
      obtain ⟨s2, hs2'⟩ : ∃ s2, s1 ++ (⟨#[44]⟩ : ByteArray) = s2 := ⟨_, rfl⟩
      have hz1 : ¬ (9223372036854775807 < 1 + d.size) := by omega
      have hz2 : ¬ (9223372036854775807 < s1.size + 1) := by rw [← hs1', ByteArray.size_append, sz0]; omega
      have h9 : op ≤ 9223372036854775807 := by omega
      have hdig : ∀ W, Calls Tryd.prog 11 #[.int .i64 (IntKind.i64.wrap op)] W fun e w' => e = .returned (.string (Trp.digB op)) ∧ Below W.heap.size W w' := fun W => by rw [wi64, hw]; exact ref_digits op h0 h9 W
      have hops := Aside0.mk (Trp.rops_len i)
      have hcon : Lib.contains (Trp.rops i).data.toList s2.data.toList = Trp.rhas i op := by
        rw [← hs2', ← hs1', ← hd]; exact Trp.rhas_eq i op
      cases hb : Trp.rhas i op with
      | true =>
        rw [hb] at hcon
        have HH := Aside0.mk hb
        clear hb
        go_region_with (first | (go_at_call 11; refine (hdig _).mono ?_; rintro e w2 ⟨rfl, hb2⟩; rw [hd]; have e10 := (hb2.cell (p := ⟨q, 0, none⟩) hlt2).trans e0; have e11 := (hb2.cell (p := ⟨q, 1, none⟩) hlt2).trans e1; have hm2 := (hb2.cell (p := ⟨0, 0, none⟩) (World.block_lt_of_cell? W2 ⟨0, 0, none⟩ hm)).trans hm; have HB3 := Aside0.mk hb2; clear hb2) | (go_at_call 47; with_reducible refine (Tryd.strings_Contains _ _ m _ hops.out hm2).mono ?_; rintro e w3 ⟨rfl, rfl⟩; rw [hcon]))
        all_goals
          go_wp2
          go_ret
          exact ⟨ret_int (by rw [← HR.out, Trp.rFrom_step i op c, if_pos HH.out]), below_step HB1.out (below_step HB2.out.drew HB3.out)⟩
      | false =>
        rw [hb] at hcon
        have HH := Aside0.mk hb
        clear hb
        go_region_with (first | (go_at_call 11; refine (hdig _).mono ?_; rintro e w2 ⟨rfl, hb2⟩; rw [hd]; have e10 := (hb2.cell (p := ⟨q, 0, none⟩) hlt2).trans e0; have e11 := (hb2.cell (p := ⟨q, 1, none⟩) hlt2).trans e1; have hm2 := (hb2.cell (p := ⟨0, 0, none⟩) (World.block_lt_of_cell? W2 ⟨0, 0, none⟩ hm)).trans hm; have HB3 := Aside0.mk hb2; clear hb2) | (go_at_call 47; with_reducible refine (Tryd.strings_Contains _ _ m _ hops.out hm2).mono ?_; rintro e w3 ⟨rfl, rfl⟩; rw [hcon]))
        all_goals
          go_wp2
          go_roundg (gk - 1)
          case measure => omega
          case rel => exact ⟨i + 1, by go_num, ⟨by omega, by rw [← HR.out, Trp.rFrom_step i op c, if_neg (by rw [HH.out]; decide)]⟩, ⟨below_step HB2.out.drew HB3.out⟩⟩
    · obtain rfl : i = 4 := by omega
      go_wp2
      go_ret
      exact ⟨ret_int hr, below_step HB1.out HB.out⟩
end Go.Proofs.YteaphfmgcpanmaaDoor

namespace Go.Proofs.YteaphfmgcpanmaaDoor
set_option linter.unusedVariables false
set_option linter.unusedSimpArgs false
open Go.RowKit Go.Proofs.YteaphfmgcpanmaaDoorW.PrintWords

theorem strIs (t : ByteArray) (l : List UInt8) : (t.toList == l) = decide (t = ⟨l.toArray⟩) := by
  rw [ByteArray.toList_eq]
  by_cases c : t = ⟨l.toArray⟩
  · rw [decide_eq_true c, c]; simp
  · rw [decide_eq_false c, beq_eq_false_iff_ne]
    intro h; exact c (ByteArray.ext (by rw [← h]))

set_option maxHeartbeats 1000000 in
theorem ref_beside (op : Int) (h0 : 0 ≤ op) (h1 : op ≤ 255) (w : World) (hG : Gl w) :
    Calls Tryd.prog 20 #[.int .u8 op] w fun e w' => e = .returned (.string (Trp.rBeside op)) ∧ Below w.heap.size w w' := by
  have hw : wrap64 op = op := by unfold wrap64; omega
  obtain ⟨t, ht⟩ : ∃ t, Trp.rTakes op = t := ⟨_, rfl⟩
  obtain ⟨k, hk⟩ : ∃ k, Trp.width op = k := ⟨_, rfl⟩
  have HT := Aside0.mk ht
  have HK := Aside0.mk hk
  have cT : ∀ W, Calls Tryd.prog 35 #[.int .u8 op] W fun e w' => e = .returned (.string t) ∧ W = w' := fun W => by rw [← ht]; exact ref_takes op h0 h1 W
  have cW : Calls Tryd.prog 34 #[.int .u8 op] w fun e w' => e = .returned (.int .i64 k) ∧ Below w.heap.size w w' := by rw [← hk]; exact ref_InsWidth op h0 h1 w hG
  have HC := Aside0.mk cT
  have HW := Aside0.mk cW
  clear ht hk cT cW
  go_enter Tryd.func20, Tryd.ntmps20
  go_wp2_with (first | (go_at_call 34; refine HW.out.mono ?_; rintro e w' ⟨rfl, hb⟩) | (go_at_call 35; refine (HC.out _).mono ?_; rintro e w' ⟨rfl, rfl⟩))
  all_goals
    go_ret
    refine ⟨ret_str ?_, by first | assumption | exact Below.refl _ _⟩
    have hkey := strIs t [63]
    simp only [hw, hkey, Bool.not_eq_true', Bool.not_eq_false', decide_eq_false_iff_not, decide_eq_true_eq, beq_iff_eq, beq_eq_false_iff_ne, bne_iff_ne, ne_eq] at *
    unfold Trp.rBeside
    rw [HK.out, HT.out]
    by_cases c : t = ⟨#[63]⟩
    · simp only [c, ne_eq, not_true_eq_false, or_false] at *
      repeat (first | rw [if_pos (by omega)] | rw [if_neg (by omega)])
    · simp only [c, ne_eq, not_false_eq_true, or_true, if_true] at *
      repeat (first | rw [if_pos (by omega)] | rw [if_neg (by omega)])
end Go.Proofs.YteaphfmgcpanmaaDoor

set_option linter.unusedVariables false
set_option linter.unusedSimpArgs false
namespace Trp
open Go Go.Lib
set_option maxRecDepth 100000

/-- a faster look for a place -/
def idxA (sub : List UInt8) : List UInt8 → Nat → Option Nat
  | [], n => if sub.isEmpty then some n else none
  | b :: l, n => if sub.isPrefixOf (b :: l) then some n else idxA sub l (n + 1)
theorem idxA_eq (sub : List UInt8) : ∀ (l : List UInt8) (n : Nat), (index l sub = -1 → idxA sub l n = none) ∧ (index l sub ≠ -1 → idxA sub l n = some (n + (index l sub).toNat))
  | [], n => by
    unfold index idxA
    by_cases h : sub.isEmpty = true
    · simp [h]
    · simp [h]
  | b :: l, n => by
    obtain ⟨h1, h2⟩ := idxA_eq sub l (n + 1)
    have hg := index_ge l sub
    unfold index idxA
    by_cases h : sub.isPrefixOf (b :: l) = true
    · simp [h]
    · rw [if_neg h, if_neg h]
      by_cases e : index l sub = -1
      · rw [if_pos (by rw [e]; rfl)]
        exact ⟨fun _ => h1 e, fun q => absurd rfl q⟩
      · rw [if_neg (by simpa using e)]
        refine ⟨fun q => by omega, fun _ => ?_⟩
        rw [h2 e]
        congr 1
        omega
def splitF (sep : List UInt8) : Nat → List UInt8 → List (List UInt8)
  | 0, s => [s]
  | k + 1, s => match idxA sep s 0 with
    | none => [s]
    | some i => s.take i :: splitF sep k (s.drop (i + sep.length))
theorem splitF_eq (sep : List UInt8) : ∀ (k : Nat) (s : List UInt8), splitK sep 0 k s = splitF sep k s
  | 0, _ => rfl
  | k + 1, s => by
    obtain ⟨h1, h2⟩ := idxA_eq sep s 0
    unfold splitK splitF
    by_cases e : index s sep = -1
    · rw [h1 e, if_pos (by rw [e]; rfl)]
    · rw [h2 e, if_neg (by simpa using e)]
      simp only [Nat.zero_add, Nat.add_zero]
      rw [splitF_eq sep k]
/-- where there are no more pieces, a greater count gives the same -/
theorem splitF_more (sep : List UInt8) (hs : 0 < sep.length) : ∀ (k : Nat) (s : List UInt8), (splitF sep k s).length ≤ k → ∀ j, k ≤ j → splitF sep j s = splitF sep k s
  | 0, s, h, _, _ => by simp [splitF] at h
  | k + 1, s, h, 0, hj => by omega
  | k + 1, s, h, j + 1, hj => by
    unfold splitF at h ⊢
    cases hi : idxA sep s 0 with
    | none => rfl
    | some i =>
      rw [hi] at h
      simp only [List.length_cons] at h
      simp only
      rw [splitF_more sep hs k _ (by omega) j (by omega)]

def namesB : List UInt8 := [48, 32, 117, 110, 114, 101, 97, 99, 104, 97, 98, 108, 101, 44, 32, 49, 32, 110, 111, 112, 44, 32, 50, 32, 98, 108, 111, 99, 107, 44, 32, 51, 32, 108, 111, 111, 112, 44, 32, 52, 32, 105, 102, 44, 32, 53, 32, 101, 108, 115, 101, 44, 32, 49, 49, 32, 101, 110, 100, 44, 32, 49, 50, 32, 98, 114, 44, 32, 49, 51, 32, 98, 114, 95, 105, 102, 44, 32, 49, 52, 32, 98, 114, 95, 116, 97, 98, 108, 101, 44, 32, 49, 53, 32, 114, 101, 116, 117, 114, 110, 44, 32, 49, 54, 32, 99, 97, 108, 108, 44, 32, 49, 55, 32, 99, 97, 108, 108, 95, 105, 110, 100, 105, 114, 101, 99, 116, 44, 32, 50, 54, 32, 100, 114, 111, 112, 44, 32, 50, 55, 32, 115, 101, 108, 101, 99, 116, 44, 32, 51, 50, 32, 108, 111, 99, 97, 108, 46, 103, 101, 116, 44, 32, 51, 51, 32, 108, 111, 99, 97, 108, 46, 115, 101, 116, 44, 32, 51, 52, 32, 108, 111, 99, 97, 108, 46, 116, 101, 101, 44, 32, 51, 53, 32, 103, 108, 111, 98, 97, 108, 46, 103, 101, 116, 44, 32, 51, 54, 32, 103, 108, 111, 98, 97, 108, 46, 115, 101, 116, 44, 32, 52, 48, 32, 105, 51, 50, 46, 108, 111, 97, 100, 44, 32, 52, 49, 32, 105, 54, 52, 46, 108, 111, 97, 100, 44, 32, 52, 52, 32, 105, 51, 50, 46, 108, 111, 97, 100, 56, 95, 115, 44, 32, 52, 53, 32, 105, 51, 50, 46, 108, 111, 97, 100, 56, 95, 117, 44, 32, 52, 54, 32, 105, 51, 50, 46, 108, 111, 97, 100, 49, 54, 95, 115, 44, 32, 52, 55, 32, 105, 51, 50, 46, 108, 111, 97, 100, 49, 54, 95, 117, 44, 32, 52, 56, 32, 105, 54, 52, 46, 108, 111, 97, 100, 56, 95, 115, 44, 32, 52, 57, 32, 105, 54, 52, 46, 108, 111, 97, 100, 56, 95, 117, 44, 32, 53, 48, 32, 105, 54, 52, 46, 108, 111, 97, 100, 49, 54, 95, 115, 44, 32, 53, 49, 32, 105, 54, 52, 46, 108, 111, 97, 100, 49, 54, 95, 117, 44, 32, 53, 50, 32, 105, 54, 52, 46, 108, 111, 97, 100, 51, 50, 95, 115, 44, 32, 53, 51, 32, 105, 54, 52, 46, 108, 111, 97, 100, 51, 50, 95, 117, 44, 32, 53, 52, 32, 105, 51, 50, 46, 115, 116, 111, 114, 101, 44, 32, 53, 53, 32, 105, 54, 52, 46, 115, 116, 111, 114, 101, 44, 32, 53, 56, 32, 105, 51, 50, 46, 115, 116, 111, 114, 101, 56, 44, 32, 53, 57, 32, 105, 51, 50, 46, 115, 116, 111, 114, 101, 49, 54, 44, 32, 54, 48, 32, 105, 54, 52, 46, 115, 116, 111, 114, 101, 56, 44, 32, 54, 49, 32, 105, 54, 52, 46, 115, 116, 111, 114, 101, 49, 54, 44, 32, 54, 50, 32, 105, 54, 52, 46, 115, 116, 111, 114, 101, 51, 50, 44, 32, 54, 51, 32, 109, 101, 109, 111, 114, 121, 46, 115, 105, 122, 101, 44, 32, 54, 52, 32, 109, 101, 109, 111, 114, 121, 46, 103, 114, 111, 119, 44, 32, 54, 53, 32, 105, 51, 50, 46, 99, 111, 110, 115, 116, 44, 32, 54, 54, 32, 105, 54, 52, 46, 99, 111, 110, 115, 116, 44, 32, 54, 57, 32, 105, 51, 50, 46, 101, 113, 122, 44, 32, 55, 48, 32, 105, 51, 50, 46, 101, 113, 44, 32, 55, 49, 32, 105, 51, 50, 46, 110, 101, 44, 32, 55, 50, 32, 105, 51, 50, 46, 108, 116, 95, 115, 44, 32, 55, 51, 32, 105, 51, 50, 46, 108, 116, 95, 117, 44, 32, 55, 52, 32, 105, 51, 50, 46, 103, 116, 95, 115, 44, 32, 55, 53, 32, 105, 51, 50, 46, 103, 116, 95, 117, 44, 32, 55, 54, 32, 105, 51, 50, 46, 108, 101, 95, 115, 44, 32, 55, 55, 32, 105, 51, 50, 46, 108, 101, 95, 117, 44, 32, 55, 56, 32, 105, 51, 50, 46, 103, 101, 95, 115, 44, 32, 55, 57, 32, 105, 51, 50, 46, 103, 101, 95, 117, 44, 32, 56, 48, 32, 105, 54, 52, 46, 101, 113, 122, 44, 32, 56, 49, 32, 105, 54, 52, 46, 101, 113, 44, 32, 56, 50, 32, 105, 54, 52, 46, 110, 101, 44, 32, 56, 51, 32, 105, 54, 52, 46, 108, 116, 95, 115, 44, 32, 56, 52, 32, 105, 54, 52, 46, 108, 116, 95, 117, 44, 32, 56, 53, 32, 105, 54, 52, 46, 103, 116, 95, 115, 44, 32, 56, 54, 32, 105, 54, 52, 46, 103, 116, 95, 117, 44, 32, 56, 55, 32, 105, 54, 52, 46, 108, 101, 95, 115, 44, 32, 56, 56, 32, 105, 54, 52, 46, 108, 101, 95, 117, 44, 32, 56, 57, 32, 105, 54, 52, 46, 103, 101, 95, 115, 44, 32, 57, 48, 32, 105, 54, 52, 46, 103, 101, 95, 117, 44, 32, 49, 48, 51, 32, 105, 51, 50, 46, 99, 108, 122, 44, 32, 49, 48, 52, 32, 105, 51, 50, 46, 99, 116, 122, 44, 32, 49, 48, 53, 32, 105, 51, 50, 46, 112, 111, 112, 99, 110, 116, 44, 32, 49, 48, 54, 32, 105, 51, 50, 46, 97, 100, 100, 44, 32, 49, 48, 55, 32, 105, 51, 50, 46, 115, 117, 98, 44, 32, 49, 48, 56, 32, 105, 51, 50, 46, 109, 117, 108, 44, 32, 49, 48, 57, 32, 105, 51, 50, 46, 100, 105, 118, 95, 115, 44, 32, 49, 49, 48, 32, 105, 51, 50, 46, 100, 105, 118, 95, 117, 44, 32, 49, 49, 49, 32, 105, 51, 50, 46, 114, 101, 109, 95, 115, 44, 32, 49, 49, 50, 32, 105, 51, 50, 46, 114, 101, 109, 95, 117, 44, 32, 49, 49, 51, 32, 105, 51, 50, 46, 97, 110, 100, 44, 32, 49, 49, 52, 32, 105, 51, 50, 46, 111, 114, 44, 32, 49, 49, 53, 32, 105, 51, 50, 46, 120, 111, 114, 44, 32, 49, 49, 54, 32, 105, 51, 50, 46, 115, 104, 108, 44, 32, 49, 49, 55, 32, 105, 51, 50, 46, 115, 104, 114, 95, 115, 44, 32, 49, 49, 56, 32, 105, 51, 50, 46, 115, 104, 114, 95, 117, 44, 32, 49, 49, 57, 32, 105, 51, 50, 46, 114, 111, 116, 108, 44, 32, 49, 50, 48, 32, 105, 51, 50, 46, 114, 111, 116, 114, 44, 32, 49, 50, 49, 32, 105, 54, 52, 46, 99, 108, 122, 44, 32, 49, 50, 50, 32, 105, 54, 52, 46, 99, 116, 122, 44, 32, 49, 50, 51, 32, 105, 54, 52, 46, 112, 111, 112, 99, 110, 116, 44, 32, 49, 50, 52, 32, 105, 54, 52, 46, 97, 100, 100, 44, 32, 49, 50, 53, 32, 105, 54, 52, 46, 115, 117, 98, 44, 32, 49, 50, 54, 32, 105, 54, 52, 46, 109, 117, 108, 44, 32, 49, 50, 55, 32, 105, 54, 52, 46, 100, 105, 118, 95, 115, 44, 32, 49, 50, 56, 32, 105, 54, 52, 46, 100, 105, 118, 95, 117, 44, 32, 49, 50, 57, 32, 105, 54, 52, 46, 114, 101, 109, 95, 115, 44, 32, 49, 51, 48, 32, 105, 54, 52, 46, 114, 101, 109, 95, 117, 44, 32, 49, 51, 49, 32, 105, 54, 52, 46, 97, 110, 100, 44, 32, 49, 51, 50, 32, 105, 54, 52, 46, 111, 114, 44, 32, 49, 51, 51, 32, 105, 54, 52, 46, 120, 111, 114, 44, 32, 49, 51, 52, 32, 105, 54, 52, 46, 115, 104, 108, 44, 32, 49, 51, 53, 32, 105, 54, 52, 46, 115, 104, 114, 95, 115, 44, 32, 49, 51, 54, 32, 105, 54, 52, 46, 115, 104, 114, 95, 117, 44, 32, 49, 51, 55, 32, 105, 54, 52, 46, 114, 111, 116, 108, 44, 32, 49, 51, 56, 32, 105, 54, 52, 46, 114, 111, 116, 114, 44, 32, 49, 54, 55, 32, 105, 51, 50, 46, 119, 114, 97, 112, 95, 105, 54, 52, 44, 32, 49, 55, 50, 32, 105, 54, 52, 46, 101, 120, 116, 101, 110, 100, 95, 105, 51, 50, 95, 115, 44, 32, 49, 55, 51, 32, 105, 54, 52, 46, 101, 120, 116, 101, 110, 100, 95, 105, 51, 50, 95, 117, 44, 32, 49, 57, 50, 32, 105, 51, 50, 46, 101, 120, 116, 101, 110, 100, 56, 95, 115, 44, 32, 49, 57, 51, 32, 105, 51, 50, 46, 101, 120, 116, 101, 110, 100, 49, 54, 95, 115, 44, 32, 49, 57, 52, 32, 105, 54, 52, 46, 101, 120, 116, 101, 110, 100, 56, 95, 115, 44, 32, 49, 57, 53, 32, 105, 54, 52, 46, 101, 120, 116, 101, 110, 100, 49, 54, 95, 115, 44, 32, 49, 57, 54, 32, 105, 54, 52, 46, 101, 120, 116, 101, 110, 100, 51, 50, 95, 115]
def namesL : List (List UInt8) := [[48, 32, 117, 110, 114, 101, 97, 99, 104, 97, 98, 108, 101],
  [49, 32, 110, 111, 112],
  [50, 32, 98, 108, 111, 99, 107],
  [51, 32, 108, 111, 111, 112],
  [52, 32, 105, 102],
  [53, 32, 101, 108, 115, 101],
  [49, 49, 32, 101, 110, 100],
  [49, 50, 32, 98, 114],
  [49, 51, 32, 98, 114, 95, 105, 102],
  [49, 52, 32, 98, 114, 95, 116, 97, 98, 108, 101],
  [49, 53, 32, 114, 101, 116, 117, 114, 110],
  [49, 54, 32, 99, 97, 108, 108],
  [49, 55, 32, 99, 97, 108, 108, 95, 105, 110, 100, 105, 114, 101, 99, 116],
  [50, 54, 32, 100, 114, 111, 112],
  [50, 55, 32, 115, 101, 108, 101, 99, 116],
  [51, 50, 32, 108, 111, 99, 97, 108, 46, 103, 101, 116],
  [51, 51, 32, 108, 111, 99, 97, 108, 46, 115, 101, 116],
  [51, 52, 32, 108, 111, 99, 97, 108, 46, 116, 101, 101],
  [51, 53, 32, 103, 108, 111, 98, 97, 108, 46, 103, 101, 116],
  [51, 54, 32, 103, 108, 111, 98, 97, 108, 46, 115, 101, 116],
  [52, 48, 32, 105, 51, 50, 46, 108, 111, 97, 100],
  [52, 49, 32, 105, 54, 52, 46, 108, 111, 97, 100],
  [52, 52, 32, 105, 51, 50, 46, 108, 111, 97, 100, 56, 95, 115],
  [52, 53, 32, 105, 51, 50, 46, 108, 111, 97, 100, 56, 95, 117],
  [52, 54, 32, 105, 51, 50, 46, 108, 111, 97, 100, 49, 54, 95, 115],
  [52, 55, 32, 105, 51, 50, 46, 108, 111, 97, 100, 49, 54, 95, 117],
  [52, 56, 32, 105, 54, 52, 46, 108, 111, 97, 100, 56, 95, 115],
  [52, 57, 32, 105, 54, 52, 46, 108, 111, 97, 100, 56, 95, 117],
  [53, 48, 32, 105, 54, 52, 46, 108, 111, 97, 100, 49, 54, 95, 115],
  [53, 49, 32, 105, 54, 52, 46, 108, 111, 97, 100, 49, 54, 95, 117],
  [53, 50, 32, 105, 54, 52, 46, 108, 111, 97, 100, 51, 50, 95, 115],
  [53, 51, 32, 105, 54, 52, 46, 108, 111, 97, 100, 51, 50, 95, 117],
  [53, 52, 32, 105, 51, 50, 46, 115, 116, 111, 114, 101],
  [53, 53, 32, 105, 54, 52, 46, 115, 116, 111, 114, 101],
  [53, 56, 32, 105, 51, 50, 46, 115, 116, 111, 114, 101, 56],
  [53, 57, 32, 105, 51, 50, 46, 115, 116, 111, 114, 101, 49, 54],
  [54, 48, 32, 105, 54, 52, 46, 115, 116, 111, 114, 101, 56],
  [54, 49, 32, 105, 54, 52, 46, 115, 116, 111, 114, 101, 49, 54],
  [54, 50, 32, 105, 54, 52, 46, 115, 116, 111, 114, 101, 51, 50],
  [54, 51, 32, 109, 101, 109, 111, 114, 121, 46, 115, 105, 122, 101],
  [54, 52, 32, 109, 101, 109, 111, 114, 121, 46, 103, 114, 111, 119],
  [54, 53, 32, 105, 51, 50, 46, 99, 111, 110, 115, 116],
  [54, 54, 32, 105, 54, 52, 46, 99, 111, 110, 115, 116],
  [54, 57, 32, 105, 51, 50, 46, 101, 113, 122],
  [55, 48, 32, 105, 51, 50, 46, 101, 113],
  [55, 49, 32, 105, 51, 50, 46, 110, 101],
  [55, 50, 32, 105, 51, 50, 46, 108, 116, 95, 115],
  [55, 51, 32, 105, 51, 50, 46, 108, 116, 95, 117],
  [55, 52, 32, 105, 51, 50, 46, 103, 116, 95, 115],
  [55, 53, 32, 105, 51, 50, 46, 103, 116, 95, 117],
  [55, 54, 32, 105, 51, 50, 46, 108, 101, 95, 115],
  [55, 55, 32, 105, 51, 50, 46, 108, 101, 95, 117],
  [55, 56, 32, 105, 51, 50, 46, 103, 101, 95, 115],
  [55, 57, 32, 105, 51, 50, 46, 103, 101, 95, 117],
  [56, 48, 32, 105, 54, 52, 46, 101, 113, 122],
  [56, 49, 32, 105, 54, 52, 46, 101, 113],
  [56, 50, 32, 105, 54, 52, 46, 110, 101],
  [56, 51, 32, 105, 54, 52, 46, 108, 116, 95, 115],
  [56, 52, 32, 105, 54, 52, 46, 108, 116, 95, 117],
  [56, 53, 32, 105, 54, 52, 46, 103, 116, 95, 115],
  [56, 54, 32, 105, 54, 52, 46, 103, 116, 95, 117],
  [56, 55, 32, 105, 54, 52, 46, 108, 101, 95, 115],
  [56, 56, 32, 105, 54, 52, 46, 108, 101, 95, 117],
  [56, 57, 32, 105, 54, 52, 46, 103, 101, 95, 115],
  [57, 48, 32, 105, 54, 52, 46, 103, 101, 95, 117],
  [49, 48, 51, 32, 105, 51, 50, 46, 99, 108, 122],
  [49, 48, 52, 32, 105, 51, 50, 46, 99, 116, 122],
  [49, 48, 53, 32, 105, 51, 50, 46, 112, 111, 112, 99, 110, 116],
  [49, 48, 54, 32, 105, 51, 50, 46, 97, 100, 100],
  [49, 48, 55, 32, 105, 51, 50, 46, 115, 117, 98],
  [49, 48, 56, 32, 105, 51, 50, 46, 109, 117, 108],
  [49, 48, 57, 32, 105, 51, 50, 46, 100, 105, 118, 95, 115],
  [49, 49, 48, 32, 105, 51, 50, 46, 100, 105, 118, 95, 117],
  [49, 49, 49, 32, 105, 51, 50, 46, 114, 101, 109, 95, 115],
  [49, 49, 50, 32, 105, 51, 50, 46, 114, 101, 109, 95, 117],
  [49, 49, 51, 32, 105, 51, 50, 46, 97, 110, 100],
  [49, 49, 52, 32, 105, 51, 50, 46, 111, 114],
  [49, 49, 53, 32, 105, 51, 50, 46, 120, 111, 114],
  [49, 49, 54, 32, 105, 51, 50, 46, 115, 104, 108],
  [49, 49, 55, 32, 105, 51, 50, 46, 115, 104, 114, 95, 115],
  [49, 49, 56, 32, 105, 51, 50, 46, 115, 104, 114, 95, 117],
  [49, 49, 57, 32, 105, 51, 50, 46, 114, 111, 116, 108],
  [49, 50, 48, 32, 105, 51, 50, 46, 114, 111, 116, 114],
  [49, 50, 49, 32, 105, 54, 52, 46, 99, 108, 122],
  [49, 50, 50, 32, 105, 54, 52, 46, 99, 116, 122],
  [49, 50, 51, 32, 105, 54, 52, 46, 112, 111, 112, 99, 110, 116],
  [49, 50, 52, 32, 105, 54, 52, 46, 97, 100, 100],
  [49, 50, 53, 32, 105, 54, 52, 46, 115, 117, 98],
  [49, 50, 54, 32, 105, 54, 52, 46, 109, 117, 108],
  [49, 50, 55, 32, 105, 54, 52, 46, 100, 105, 118, 95, 115],
  [49, 50, 56, 32, 105, 54, 52, 46, 100, 105, 118, 95, 117],
  [49, 50, 57, 32, 105, 54, 52, 46, 114, 101, 109, 95, 115],
  [49, 51, 48, 32, 105, 54, 52, 46, 114, 101, 109, 95, 117],
  [49, 51, 49, 32, 105, 54, 52, 46, 97, 110, 100],
  [49, 51, 50, 32, 105, 54, 52, 46, 111, 114],
  [49, 51, 51, 32, 105, 54, 52, 46, 120, 111, 114],
  [49, 51, 52, 32, 105, 54, 52, 46, 115, 104, 108],
  [49, 51, 53, 32, 105, 54, 52, 46, 115, 104, 114, 95, 115],
  [49, 51, 54, 32, 105, 54, 52, 46, 115, 104, 114, 95, 117],
  [49, 51, 55, 32, 105, 54, 52, 46, 114, 111, 116, 108],
  [49, 51, 56, 32, 105, 54, 52, 46, 114, 111, 116, 114],
  [49, 54, 55, 32, 105, 51, 50, 46, 119, 114, 97, 112, 95, 105, 54, 52],
  [49, 55, 50, 32, 105, 54, 52, 46, 101, 120, 116, 101, 110, 100, 95, 105, 51, 50, 95, 115],
  [49, 55, 51, 32, 105, 54, 52, 46, 101, 120, 116, 101, 110, 100, 95, 105, 51, 50, 95, 117],
  [49, 57, 50, 32, 105, 51, 50, 46, 101, 120, 116, 101, 110, 100, 56, 95, 115],
  [49, 57, 51, 32, 105, 51, 50, 46, 101, 120, 116, 101, 110, 100, 49, 54, 95, 115],
  [49, 57, 52, 32, 105, 54, 52, 46, 101, 120, 116, 101, 110, 100, 56, 95, 115],
  [49, 57, 53, 32, 105, 54, 52, 46, 101, 120, 116, 101, 110, 100, 49, 54, 95, 115],
  [49, 57, 54, 32, 105, 54, 52, 46, 101, 120, 116, 101, 110, 100, 51, 50, 95, 115]]
def pairsL : List (List UInt8 × List UInt8) := [([48], [117, 110, 114, 101, 97, 99, 104, 97, 98, 108, 101]),
  ([49], [110, 111, 112]),
  ([50], [98, 108, 111, 99, 107]),
  ([51], [108, 111, 111, 112]),
  ([52], [105, 102]),
  ([53], [101, 108, 115, 101]),
  ([49, 49], [101, 110, 100]),
  ([49, 50], [98, 114]),
  ([49, 51], [98, 114, 95, 105, 102]),
  ([49, 52], [98, 114, 95, 116, 97, 98, 108, 101]),
  ([49, 53], [114, 101, 116, 117, 114, 110]),
  ([49, 54], [99, 97, 108, 108]),
  ([49, 55], [99, 97, 108, 108, 95, 105, 110, 100, 105, 114, 101, 99, 116]),
  ([50, 54], [100, 114, 111, 112]),
  ([50, 55], [115, 101, 108, 101, 99, 116]),
  ([51, 50], [108, 111, 99, 97, 108, 46, 103, 101, 116]),
  ([51, 51], [108, 111, 99, 97, 108, 46, 115, 101, 116]),
  ([51, 52], [108, 111, 99, 97, 108, 46, 116, 101, 101]),
  ([51, 53], [103, 108, 111, 98, 97, 108, 46, 103, 101, 116]),
  ([51, 54], [103, 108, 111, 98, 97, 108, 46, 115, 101, 116]),
  ([52, 48], [105, 51, 50, 46, 108, 111, 97, 100]),
  ([52, 49], [105, 54, 52, 46, 108, 111, 97, 100]),
  ([52, 52], [105, 51, 50, 46, 108, 111, 97, 100, 56, 95, 115]),
  ([52, 53], [105, 51, 50, 46, 108, 111, 97, 100, 56, 95, 117]),
  ([52, 54], [105, 51, 50, 46, 108, 111, 97, 100, 49, 54, 95, 115]),
  ([52, 55], [105, 51, 50, 46, 108, 111, 97, 100, 49, 54, 95, 117]),
  ([52, 56], [105, 54, 52, 46, 108, 111, 97, 100, 56, 95, 115]),
  ([52, 57], [105, 54, 52, 46, 108, 111, 97, 100, 56, 95, 117]),
  ([53, 48], [105, 54, 52, 46, 108, 111, 97, 100, 49, 54, 95, 115]),
  ([53, 49], [105, 54, 52, 46, 108, 111, 97, 100, 49, 54, 95, 117]),
  ([53, 50], [105, 54, 52, 46, 108, 111, 97, 100, 51, 50, 95, 115]),
  ([53, 51], [105, 54, 52, 46, 108, 111, 97, 100, 51, 50, 95, 117]),
  ([53, 52], [105, 51, 50, 46, 115, 116, 111, 114, 101]),
  ([53, 53], [105, 54, 52, 46, 115, 116, 111, 114, 101]),
  ([53, 56], [105, 51, 50, 46, 115, 116, 111, 114, 101, 56]),
  ([53, 57], [105, 51, 50, 46, 115, 116, 111, 114, 101, 49, 54]),
  ([54, 48], [105, 54, 52, 46, 115, 116, 111, 114, 101, 56]),
  ([54, 49], [105, 54, 52, 46, 115, 116, 111, 114, 101, 49, 54]),
  ([54, 50], [105, 54, 52, 46, 115, 116, 111, 114, 101, 51, 50]),
  ([54, 51], [109, 101, 109, 111, 114, 121, 46, 115, 105, 122, 101]),
  ([54, 52], [109, 101, 109, 111, 114, 121, 46, 103, 114, 111, 119]),
  ([54, 53], [105, 51, 50, 46, 99, 111, 110, 115, 116]),
  ([54, 54], [105, 54, 52, 46, 99, 111, 110, 115, 116]),
  ([54, 57], [105, 51, 50, 46, 101, 113, 122]),
  ([55, 48], [105, 51, 50, 46, 101, 113]),
  ([55, 49], [105, 51, 50, 46, 110, 101]),
  ([55, 50], [105, 51, 50, 46, 108, 116, 95, 115]),
  ([55, 51], [105, 51, 50, 46, 108, 116, 95, 117]),
  ([55, 52], [105, 51, 50, 46, 103, 116, 95, 115]),
  ([55, 53], [105, 51, 50, 46, 103, 116, 95, 117]),
  ([55, 54], [105, 51, 50, 46, 108, 101, 95, 115]),
  ([55, 55], [105, 51, 50, 46, 108, 101, 95, 117]),
  ([55, 56], [105, 51, 50, 46, 103, 101, 95, 115]),
  ([55, 57], [105, 51, 50, 46, 103, 101, 95, 117]),
  ([56, 48], [105, 54, 52, 46, 101, 113, 122]),
  ([56, 49], [105, 54, 52, 46, 101, 113]),
  ([56, 50], [105, 54, 52, 46, 110, 101]),
  ([56, 51], [105, 54, 52, 46, 108, 116, 95, 115]),
  ([56, 52], [105, 54, 52, 46, 108, 116, 95, 117]),
  ([56, 53], [105, 54, 52, 46, 103, 116, 95, 115]),
  ([56, 54], [105, 54, 52, 46, 103, 116, 95, 117]),
  ([56, 55], [105, 54, 52, 46, 108, 101, 95, 115]),
  ([56, 56], [105, 54, 52, 46, 108, 101, 95, 117]),
  ([56, 57], [105, 54, 52, 46, 103, 101, 95, 115]),
  ([57, 48], [105, 54, 52, 46, 103, 101, 95, 117]),
  ([49, 48, 51], [105, 51, 50, 46, 99, 108, 122]),
  ([49, 48, 52], [105, 51, 50, 46, 99, 116, 122]),
  ([49, 48, 53], [105, 51, 50, 46, 112, 111, 112, 99, 110, 116]),
  ([49, 48, 54], [105, 51, 50, 46, 97, 100, 100]),
  ([49, 48, 55], [105, 51, 50, 46, 115, 117, 98]),
  ([49, 48, 56], [105, 51, 50, 46, 109, 117, 108]),
  ([49, 48, 57], [105, 51, 50, 46, 100, 105, 118, 95, 115]),
  ([49, 49, 48], [105, 51, 50, 46, 100, 105, 118, 95, 117]),
  ([49, 49, 49], [105, 51, 50, 46, 114, 101, 109, 95, 115]),
  ([49, 49, 50], [105, 51, 50, 46, 114, 101, 109, 95, 117]),
  ([49, 49, 51], [105, 51, 50, 46, 97, 110, 100]),
  ([49, 49, 52], [105, 51, 50, 46, 111, 114]),
  ([49, 49, 53], [105, 51, 50, 46, 120, 111, 114]),
  ([49, 49, 54], [105, 51, 50, 46, 115, 104, 108]),
  ([49, 49, 55], [105, 51, 50, 46, 115, 104, 114, 95, 115]),
  ([49, 49, 56], [105, 51, 50, 46, 115, 104, 114, 95, 117]),
  ([49, 49, 57], [105, 51, 50, 46, 114, 111, 116, 108]),
  ([49, 50, 48], [105, 51, 50, 46, 114, 111, 116, 114]),
  ([49, 50, 49], [105, 54, 52, 46, 99, 108, 122]),
  ([49, 50, 50], [105, 54, 52, 46, 99, 116, 122]),
  ([49, 50, 51], [105, 54, 52, 46, 112, 111, 112, 99, 110, 116]),
  ([49, 50, 52], [105, 54, 52, 46, 97, 100, 100]),
  ([49, 50, 53], [105, 54, 52, 46, 115, 117, 98]),
  ([49, 50, 54], [105, 54, 52, 46, 109, 117, 108]),
  ([49, 50, 55], [105, 54, 52, 46, 100, 105, 118, 95, 115]),
  ([49, 50, 56], [105, 54, 52, 46, 100, 105, 118, 95, 117]),
  ([49, 50, 57], [105, 54, 52, 46, 114, 101, 109, 95, 115]),
  ([49, 51, 48], [105, 54, 52, 46, 114, 101, 109, 95, 117]),
  ([49, 51, 49], [105, 54, 52, 46, 97, 110, 100]),
  ([49, 51, 50], [105, 54, 52, 46, 111, 114]),
  ([49, 51, 51], [105, 54, 52, 46, 120, 111, 114]),
  ([49, 51, 52], [105, 54, 52, 46, 115, 104, 108]),
  ([49, 51, 53], [105, 54, 52, 46, 115, 104, 114, 95, 115]),
  ([49, 51, 54], [105, 54, 52, 46, 115, 104, 114, 95, 117]),
  ([49, 51, 55], [105, 54, 52, 46, 114, 111, 116, 108]),
  ([49, 51, 56], [105, 54, 52, 46, 114, 111, 116, 114]),
  ([49, 54, 55], [105, 51, 50, 46, 119, 114, 97, 112, 95, 105, 54, 52]),
  ([49, 55, 50], [105, 54, 52, 46, 101, 120, 116, 101, 110, 100, 95, 105, 51, 50, 95, 115]),
  ([49, 55, 51], [105, 54, 52, 46, 101, 120, 116, 101, 110, 100, 95, 105, 51, 50, 95, 117]),
  ([49, 57, 50], [105, 51, 50, 46, 101, 120, 116, 101, 110, 100, 56, 95, 115]),
  ([49, 57, 51], [105, 51, 50, 46, 101, 120, 116, 101, 110, 100, 49, 54, 95, 115]),
  ([49, 57, 52], [105, 54, 52, 46, 101, 120, 116, 101, 110, 100, 56, 95, 115]),
  ([49, 57, 53], [105, 54, 52, 46, 101, 120, 116, 101, 110, 100, 49, 54, 95, 115]),
  ([49, 57, 54], [105, 54, 52, 46, 101, 120, 116, 101, 110, 100, 51, 50, 95, 115])]
structure ARow where
  at0 : Nat
  ahead : List UInt8
  names : List UInt8
  parts : List (List UInt8)
def rowsL : List ARow := [⟨0, [], [117, 110, 114, 101, 97, 99, 104, 97, 98, 108, 101, 32, 110, 111, 112, 32, 98, 108, 111, 99, 107, 32, 108, 111, 111, 112, 32, 105, 102, 32, 101, 108, 115, 101], [[117, 110, 114, 101, 97, 99, 104, 97, 98, 108, 101], [110, 111, 112], [98, 108, 111, 99, 107], [108, 111, 111, 112], [105, 102], [101, 108, 115, 101]]⟩,
  ⟨11, [], [101, 110, 100, 32, 98, 114, 32, 98, 114, 95, 105, 102, 32, 98, 114, 95, 116, 97, 98, 108, 101, 32, 114, 101, 116, 117, 114, 110, 32, 99, 97, 108, 108, 32, 99, 97, 108, 108, 95, 105, 110, 100, 105, 114, 101, 99, 116], [[101, 110, 100], [98, 114], [98, 114, 95, 105, 102], [98, 114, 95, 116, 97, 98, 108, 101], [114, 101, 116, 117, 114, 110], [99, 97, 108, 108], [99, 97, 108, 108, 95, 105, 110, 100, 105, 114, 101, 99, 116]]⟩,
  ⟨26, [], [100, 114, 111, 112, 32, 115, 101, 108, 101, 99, 116], [[100, 114, 111, 112], [115, 101, 108, 101, 99, 116]]⟩,
  ⟨32, [], [108, 111, 99, 97, 108, 46, 103, 101, 116, 32, 108, 111, 99, 97, 108, 46, 115, 101, 116, 32, 108, 111, 99, 97, 108, 46, 116, 101, 101, 32, 103, 108, 111, 98, 97, 108, 46, 103, 101, 116, 32, 103, 108, 111, 98, 97, 108, 46, 115, 101, 116], [[108, 111, 99, 97, 108, 46, 103, 101, 116], [108, 111, 99, 97, 108, 46, 115, 101, 116], [108, 111, 99, 97, 108, 46, 116, 101, 101], [103, 108, 111, 98, 97, 108, 46, 103, 101, 116], [103, 108, 111, 98, 97, 108, 46, 115, 101, 116]]⟩,
  ⟨40, [], [105, 51, 50, 46, 108, 111, 97, 100, 32, 105, 54, 52, 46, 108, 111, 97, 100], [[105, 51, 50, 46, 108, 111, 97, 100], [105, 54, 52, 46, 108, 111, 97, 100]]⟩,
  ⟨44, [105, 51, 50, 46], [108, 111, 97, 100, 56, 95, 115, 32, 108, 111, 97, 100, 56, 95, 117, 32, 108, 111, 97, 100, 49, 54, 95, 115, 32, 108, 111, 97, 100, 49, 54, 95, 117], [[108, 111, 97, 100, 56, 95, 115], [108, 111, 97, 100, 56, 95, 117], [108, 111, 97, 100, 49, 54, 95, 115], [108, 111, 97, 100, 49, 54, 95, 117]]⟩,
  ⟨48, [105, 54, 52, 46], [108, 111, 97, 100, 56, 95, 115, 32, 108, 111, 97, 100, 56, 95, 117, 32, 108, 111, 97, 100, 49, 54, 95, 115, 32, 108, 111, 97, 100, 49, 54, 95, 117, 32, 108, 111, 97, 100, 51, 50, 95, 115, 32, 108, 111, 97, 100, 51, 50, 95, 117], [[108, 111, 97, 100, 56, 95, 115], [108, 111, 97, 100, 56, 95, 117], [108, 111, 97, 100, 49, 54, 95, 115], [108, 111, 97, 100, 49, 54, 95, 117], [108, 111, 97, 100, 51, 50, 95, 115], [108, 111, 97, 100, 51, 50, 95, 117]]⟩,
  ⟨54, [], [105, 51, 50, 46, 115, 116, 111, 114, 101, 32, 105, 54, 52, 46, 115, 116, 111, 114, 101], [[105, 51, 50, 46, 115, 116, 111, 114, 101], [105, 54, 52, 46, 115, 116, 111, 114, 101]]⟩,
  ⟨58, [], [105, 51, 50, 46, 115, 116, 111, 114, 101, 56, 32, 105, 51, 50, 46, 115, 116, 111, 114, 101, 49, 54, 32, 105, 54, 52, 46, 115, 116, 111, 114, 101, 56, 32, 105, 54, 52, 46, 115, 116, 111, 114, 101, 49, 54, 32, 105, 54, 52, 46, 115, 116, 111, 114, 101, 51, 50], [[105, 51, 50, 46, 115, 116, 111, 114, 101, 56], [105, 51, 50, 46, 115, 116, 111, 114, 101, 49, 54], [105, 54, 52, 46, 115, 116, 111, 114, 101, 56], [105, 54, 52, 46, 115, 116, 111, 114, 101, 49, 54], [105, 54, 52, 46, 115, 116, 111, 114, 101, 51, 50]]⟩,
  ⟨63, [], [109, 101, 109, 111, 114, 121, 46, 115, 105, 122, 101, 32, 109, 101, 109, 111, 114, 121, 46, 103, 114, 111, 119, 32, 105, 51, 50, 46, 99, 111, 110, 115, 116, 32, 105, 54, 52, 46, 99, 111, 110, 115, 116], [[109, 101, 109, 111, 114, 121, 46, 115, 105, 122, 101], [109, 101, 109, 111, 114, 121, 46, 103, 114, 111, 119], [105, 51, 50, 46, 99, 111, 110, 115, 116], [105, 54, 52, 46, 99, 111, 110, 115, 116]]⟩,
  ⟨69, [105, 51, 50, 46], [101, 113, 122, 32, 101, 113, 32, 110, 101, 32, 108, 116, 95, 115, 32, 108, 116, 95, 117, 32, 103, 116, 95, 115, 32, 103, 116, 95, 117, 32, 108, 101, 95, 115, 32, 108, 101, 95, 117, 32, 103, 101, 95, 115, 32, 103, 101, 95, 117], [[101, 113, 122], [101, 113], [110, 101], [108, 116, 95, 115], [108, 116, 95, 117], [103, 116, 95, 115], [103, 116, 95, 117], [108, 101, 95, 115], [108, 101, 95, 117], [103, 101, 95, 115], [103, 101, 95, 117]]⟩,
  ⟨80, [105, 54, 52, 46], [101, 113, 122, 32, 101, 113, 32, 110, 101, 32, 108, 116, 95, 115, 32, 108, 116, 95, 117, 32, 103, 116, 95, 115, 32, 103, 116, 95, 117, 32, 108, 101, 95, 115, 32, 108, 101, 95, 117, 32, 103, 101, 95, 115, 32, 103, 101, 95, 117], [[101, 113, 122], [101, 113], [110, 101], [108, 116, 95, 115], [108, 116, 95, 117], [103, 116, 95, 115], [103, 116, 95, 117], [108, 101, 95, 115], [108, 101, 95, 117], [103, 101, 95, 115], [103, 101, 95, 117]]⟩,
  ⟨103, [105, 51, 50, 46], [99, 108, 122, 32, 99, 116, 122, 32, 112, 111, 112, 99, 110, 116, 32, 97, 100, 100, 32, 115, 117, 98, 32, 109, 117, 108, 32, 100, 105, 118, 95, 115, 32, 100, 105, 118, 95, 117, 32, 114, 101, 109, 95, 115, 32, 114, 101, 109, 95, 117, 32, 97, 110, 100, 32, 111, 114, 32, 120, 111, 114, 32, 115, 104, 108, 32, 115, 104, 114, 95, 115, 32, 115, 104, 114, 95, 117, 32, 114, 111, 116, 108, 32, 114, 111, 116, 114], [[99, 108, 122], [99, 116, 122], [112, 111, 112, 99, 110, 116], [97, 100, 100], [115, 117, 98], [109, 117, 108], [100, 105, 118, 95, 115], [100, 105, 118, 95, 117], [114, 101, 109, 95, 115], [114, 101, 109, 95, 117], [97, 110, 100], [111, 114], [120, 111, 114], [115, 104, 108], [115, 104, 114, 95, 115], [115, 104, 114, 95, 117], [114, 111, 116, 108], [114, 111, 116, 114]]⟩,
  ⟨121, [105, 54, 52, 46], [99, 108, 122, 32, 99, 116, 122, 32, 112, 111, 112, 99, 110, 116, 32, 97, 100, 100, 32, 115, 117, 98, 32, 109, 117, 108, 32, 100, 105, 118, 95, 115, 32, 100, 105, 118, 95, 117, 32, 114, 101, 109, 95, 115, 32, 114, 101, 109, 95, 117, 32, 97, 110, 100, 32, 111, 114, 32, 120, 111, 114, 32, 115, 104, 108, 32, 115, 104, 114, 95, 115, 32, 115, 104, 114, 95, 117, 32, 114, 111, 116, 108, 32, 114, 111, 116, 114], [[99, 108, 122], [99, 116, 122], [112, 111, 112, 99, 110, 116], [97, 100, 100], [115, 117, 98], [109, 117, 108], [100, 105, 118, 95, 115], [100, 105, 118, 95, 117], [114, 101, 109, 95, 115], [114, 101, 109, 95, 117], [97, 110, 100], [111, 114], [120, 111, 114], [115, 104, 108], [115, 104, 114, 95, 115], [115, 104, 114, 95, 117], [114, 111, 116, 108], [114, 111, 116, 114]]⟩,
  ⟨167, [], [105, 51, 50, 46, 119, 114, 97, 112, 95, 105, 54, 52], [[105, 51, 50, 46, 119, 114, 97, 112, 95, 105, 54, 52]]⟩,
  ⟨172, [], [105, 54, 52, 46, 101, 120, 116, 101, 110, 100, 95, 105, 51, 50, 95, 115, 32, 105, 54, 52, 46, 101, 120, 116, 101, 110, 100, 95, 105, 51, 50, 95, 117], [[105, 54, 52, 46, 101, 120, 116, 101, 110, 100, 95, 105, 51, 50, 95, 115], [105, 54, 52, 46, 101, 120, 116, 101, 110, 100, 95, 105, 51, 50, 95, 117]]⟩,
  ⟨192, [], [105, 51, 50, 46, 101, 120, 116, 101, 110, 100, 56, 95, 115, 32, 105, 51, 50, 46, 101, 120, 116, 101, 110, 100, 49, 54, 95, 115, 32, 105, 54, 52, 46, 101, 120, 116, 101, 110, 100, 56, 95, 115, 32, 105, 54, 52, 46, 101, 120, 116, 101, 110, 100, 49, 54, 95, 115, 32, 105, 54, 52, 46, 101, 120, 116, 101, 110, 100, 51, 50, 95, 115], [[105, 51, 50, 46, 101, 120, 116, 101, 110, 100, 56, 95, 115], [105, 51, 50, 46, 101, 120, 116, 101, 110, 100, 49, 54, 95, 115], [105, 54, 52, 46, 101, 120, 116, 101, 110, 100, 56, 95, 115], [105, 54, 52, 46, 101, 120, 116, 101, 110, 100, 49, 54, 95, 115], [105, 54, 52, 46, 101, 120, 116, 101, 110, 100, 51, 50, 95, 115]]⟩]

theorem names_split : splitF [44, 32] 108 namesB = namesL := by decide +kernel
theorem names_cut : namesL.map (fun s => ((cut s [32]).1, (cut s [32]).2.1)) = pairsL := by decide +kernel
def countA (sub : List UInt8) : Nat → List UInt8 → Nat
  | 0, _ => 0
  | f + 1, s => match idxA sub s 0 with
    | none => 0
    | some i => 1 + countA sub f (s.drop (i + sub.length))
theorem countA_eq (sub : List UInt8) : ∀ (f : Nat) (s : List UInt8), countFrom sub f s = countA sub f s
  | 0, _ => rfl
  | f + 1, s => by
    obtain ⟨h1, h2⟩ := idxA_eq sub s 0
    unfold countFrom countA
    by_cases e : index s sub = -1
    · rw [h1 e, if_pos (by rw [e]; rfl)]
    · rw [h2 e, if_neg (by simpa using e)]
      simp only [Nat.zero_add]
      rw [countA_eq sub f]
theorem countA_le (sub : List UInt8) : ∀ (f : Nat) (s : List UInt8), countA sub f s ≤ f
  | 0, _ => Nat.le_refl _
  | f + 1, s => by
    unfold countA
    split
    · omega
    · have := countA_le sub f (s.drop (‹Nat› + sub.length))
      omega
theorem names_count : countA [44, 32] (namesB.length + 1) namesB = 108 := by decide +kernel
theorem rows_count : ∀ r ∈ rowsL, countA [32] (r.names.length + 1) r.names + 1 = r.parts.length := by decide +kernel
theorem rows_split' : ∀ r ∈ rowsL, splitF [32] (r.parts.length - 1) r.names = r.parts := by decide +kernel
theorem rows_one : ∀ r ∈ rowsL, split r.names [32] = r.parts := by
  intro r hr
  unfold split count
  rw [splitF_eq, countA_eq]
  have h1 := rows_count r hr
  rw [show countA [32] (r.names.length + 1) r.names = r.parts.length - 1 by omega]
  exact rows_split' r hr
theorem names_one : split namesB [44, 32] = namesL := by
  unfold split count
  rw [splitF_eq, countA_eq, names_count]
  exact names_split
def asmName (op : Nat) : Option (List UInt8) := rowsL.findSome? fun r => if r.at0 ≤ op then (r.parts[op - r.at0]?).map (r.ahead ++ ·) else none
def rName (op : Nat) : Option (List UInt8) := (pairsL.find? fun p => p.1 = dig 20 op []).map (·.2)
theorem names_all : ∀ n : Fin 256, asmName n.val = rName n.val := by decide +kernel
end Trp

set_option linter.unusedVariables false
set_option linter.unusedSimpArgs false
namespace Trp
open Go Go.Lib

theorem dig_dec : ∀ (k u : Nat) (acc : List UInt8), u < 10 ^ (k + 1) → dig (k + 1) u acc = decDigits u ++ acc
  | 0, u, acc, h => by
    rw [dig, decDigits, if_pos (by omega), dif_pos (by omega), Nat.mod_eq_of_lt (by omega)]
    rfl
  | k + 1, u, acc, h => by
    rw [dig, decDigits]
    by_cases c : u < 10
    · rw [if_pos (by omega), dif_pos c, Nat.mod_eq_of_lt c]; rfl
    · rw [if_neg (by omega), dif_neg c, dig_dec k (u / 10) _ (by have : 10 ^ (k + 1 + 1) = 10 ^ (k + 1) * 10 := Nat.pow_succ ..
                                                                 omega), List.append_assoc]
      rfl
/-- a number's text, as the reference makes it -/
def rDigits (n : Int) : List UInt8 := (if n < 0 then [45] else []) ++ dig 20 n.natAbs []
theorem rDigits_eq (n : Int) (h0 : -9223372036854775808 ≤ n) (h1 : n ≤ 9223372036854775807) : rDigits n = itoa n := by
  have hd : dig 20 n.natAbs [] = decDigits n.natAbs := by
    rw [dig_dec 19 _ _ (by have : (10 : Nat) ^ (19 + 1) = 100000000000000000000 := by decide
                           omega), List.append_nil]
  unfold rDigits itoa
  rw [hd]
  by_cases c : n < 0
  · rw [if_pos c, if_pos c]; rfl
  · rw [if_neg c, if_neg c, show n.toNat = n.natAbs by omega]; rfl

def nameOf (op : Int) : List UInt8 := (asmName op.toNat).getD []
/-- what stands behind an instruction's name -/
def asmArgs (x : Ins) : List (List UInt8) :=
  if 2 ≤ x.op ∧ x.op ≤ 4 then (if x.a = 127 then [[105, 51, 50]] else if x.a = 126 then [[105, 54, 52]] else [])
  else if x.op = 14 then (x.tos ++ [x.a]).map itoa
  else if 0 < width x.op then [itoa x.a, itoa x.b]
  else if x.op = 12 ∨ x.op = 13 ∨ x.op = 16 ∨ x.op = 17 ∨ (32 ≤ x.op ∧ x.op ≤ 36) ∨ x.op = 65 ∨ x.op = 66 then [itoa x.a]
  else []
def asmRest (l : List (List UInt8)) : List UInt8 := l.flatMap fun s => 32 :: s
def asmLine (x : Ins) : List UInt8 := nameOf x.op ++ asmRest (asmArgs x) ++ [10]
def asmText (l : List Ins) : List UInt8 := l.flatMap asmLine
/-- the program's asm.beside -/
def asmBes (op : Int) : Int :=
  if 2 ≤ op ∧ op ≤ 4 then -1
  else if op = 14 then -2
  else if 0 < width op then 2
  else if op = 12 ∨ op = 13 ∨ op = 16 ∨ op = 17 ∨ (32 ≤ op ∧ op ≤ 36) ∨ op = 65 ∨ op = 66 then 1
  else 0
end Trp
