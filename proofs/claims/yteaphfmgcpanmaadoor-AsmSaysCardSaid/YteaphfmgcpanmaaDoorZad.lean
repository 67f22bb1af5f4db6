/- A part of the proof: lemmas and walks that the last text of this claim uses. -/
import Derived.Test.YteaphfmgcpanmaaDoorZac
import Derived.Shelf.Strings.Split
import Derived.Deep.LoopGhost

namespace Go.Proofs
open Go.Shelf Go.RowKit Go.Lib
theorem Tryd.strings_Split (s sep : ByteArray) (m : Int) (w : World) (hs : s.size < 4294967281) (hm : w.cell? ⟨0, 0, none⟩ = some (.int .i64 m)) (h1 : 1 ≤ sep.size) :
    Calls Tryd.prog 9 #[.string s, .string sep] w fun e w' => e = .returned (.slice (some ⟨w.heap.size, 0, none⟩) (Lib.countB s sep + 1) (Lib.countB s sep + 1)) ∧ w' = w.alloc (.cells ((Lib.splitB sep 0 (Lib.countB s sep) s).map Value.string).toArray 9) := Any.strings_Split Tryd.lays146 (by kernel_rfl) s sep m w hs hm h1
end Go.Proofs
namespace Go.Proofs.YteaphfmgcpanmaaDoor
set_option linter.unusedVariables false
set_option linter.unusedSimpArgs false
open Go.RowKit Go.Proofs.YteaphfmgcpanmaaDoorW.PrintWords

def rowCells : Array Value := (Trp.rowsL.flatMap fun r => [Value.int .u8 r.at0, .string ⟨r.ahead.toArray⟩, .string ⟨r.names.toArray⟩]).toArray
set_option maxRecDepth 100000 in
set_option maxHeartbeats 4000000 in
theorem asm_rows (w : World) : Calls Tryd.prog 8 #[] w fun e w' => e = .returned (.slice (some ⟨w.heap.size, 0, none⟩) 17 17) ∧ w' = w.alloc (.cells rowCells 32) := by
  go_enter Tryd.func8, Tryd.ntmps8
  go_wp2
  go_ret
  exact ⟨rfl, rfl⟩

set_option maxHeartbeats 1000000 in
theorem asm_beside (op : Int) (w : World) :
    Calls Tryd.prog 32 #[.int .u8 op] w fun e w' => e = .returned (.int .i64 (Trp.asmBes op)) ∧ w = w' := by
  go_enter Tryd.func32, Tryd.ntmps32
  go_wp2_with (go_at_call 45; refine (ins_Width op _).mono ?_; rintro e w' ⟨rfl, rfl⟩)
  all_goals
    go_ret
    refine ⟨ret_int ?_, rfl⟩
    try simp only [beq_iff_eq, beq_eq_false_iff_ne, ne_eq] at *
    unfold Trp.asmBes
    repeat (first | rw [if_pos (by omega)] | rw [if_neg (by omega)])
def strCellsOf (ps : List (List UInt8)) : Array Value := (ps.map fun p => Value.string ⟨p.toArray⟩).toArray
theorem split_pieces (s sep : ByteArray) (parts : List (List UInt8)) (h : Lib.split s.data.toList sep.data.toList = parts) : (Lib.splitB sep 0 (Lib.countB s sep) s).map Value.string = parts.map fun p => Value.string ⟨p.toArray⟩ := by
  have h1 := Lib.splitB_data sep 0 (Lib.countB s sep) s
  have h2 : Lib.splitK sep.data.toList 0 (Lib.countB s sep) s.data.toList = parts := h
  rw [h2] at h1
  rw [← h1, List.map_map]
  apply List.map_congr_left
  intro b _
  rfl
theorem split_at (s sep : ByteArray) (parts : List (List UInt8)) (h : Lib.split s.data.toList sep.data.toList = parts) (hc : Lib.countB s sep + 1 = parts.length) (w : World) (hG : Gl w) (hs : s.size < 4294967281) (h1 : 1 ≤ sep.size) :
    Calls Tryd.prog 9 #[.string s, .string sep] w fun e w' => e = .returned (.slice (some ⟨w.heap.size, 0, none⟩) parts.length parts.length) ∧ w' = w.alloc (.cells (strCellsOf parts) 9) := by
  obtain ⟨m, hm⟩ := hG
  refine (Tryd.strings_Split s sep m w hs hm h1).mono ?_
  rintro e w' ⟨rfl, rfl⟩
  rw [hc, split_pieces s sep parts h]
  exact ⟨rfl, rfl⟩
def zARow : Trp.ARow := ⟨0, [], [], []⟩
def rowAt (i : Nat) : Trp.ARow := Trp.rowsL.getD i zARow
structure RowIs (i : Nat) (r : Trp.ARow) : Prop where
  c0 : rowCells[i * 3]? = some (.int .u8 r.at0)
  c1 : rowCells[i * 3 + 1]? = some (.string ⟨r.ahead.toArray⟩)
  c2 : rowCells[i * 3 + 2]? = some (.string ⟨r.names.toArray⟩)
  mem : r ∈ Trp.rowsL
  big : r.at0 ≤ 255
  len : r.names.length ≤ 1000
  ahl : r.ahead.length ≤ 10
  pl : ∀ p ∈ r.parts, p.length ≤ 100
  drop : Trp.rowsL.drop i = r :: Trp.rowsL.drop (i + 1)
set_option maxRecDepth 100000 in
theorem rowIs (i : Nat) (h : i < 17) : RowIs i (rowAt i) := by
  obtain rfl | rfl | rfl | rfl | rfl | rfl | rfl | rfl | rfl | rfl | rfl | rfl | rfl | rfl | rfl | rfl | rfl : i = 0 ∨ i = 1 ∨ i = 2 ∨ i = 3 ∨ i = 4 ∨ i = 5 ∨ i = 6 ∨ i = 7 ∨ i = 8 ∨ i = 9 ∨ i = 10 ∨ i = 11 ∨ i = 12 ∨ i = 13 ∨ i = 14 ∨ i = 15 ∨ i = 16 := by omega
  all_goals exact ⟨rfl, rfl, rfl, by unfold rowAt; rw [List.getD_eq_getElem?_getD, List.getElem?_eq_getElem (by decide)]; exact List.getElem_mem _, by decide, by decide, by decide, by decide, rfl⟩
theorem RowIs.split {i : Nat} {r : Trp.ARow} (h : RowIs i r) : Lib.split r.names [32] = r.parts ∧ Lib.countB ⟨r.names.toArray⟩ ⟨#[32]⟩ + 1 = r.parts.length := by
  refine ⟨Trp.rows_one r h.mem, ?_⟩
  show Lib.countFrom [32] (r.names.length + 1) r.names + 1 = _
  rw [Trp.countA_eq]; exact Trp.rows_count r h.mem
def nameF (op : Nat) (r : Trp.ARow) : Option (List UInt8) := if r.at0 ≤ op then (r.parts[op - r.at0]?).map (r.ahead ++ ·) else none
theorem asmName_eq (op : Nat) : Trp.asmName op = Trp.rowsL.findSome? (nameF op) := rfl
theorem RowIs.next {i op : Nat} {r : Trp.ARow} {R : Option (List UInt8)} (h : RowIs i r) (hr : (Trp.rowsL.drop i).findSome? (nameF op) = R) (hn : nameF op r = none) : (Trp.rowsL.drop (i + 1)).findSome? (nameF op) = R := by
  rw [h.drop, List.findSome?_cons, hn] at hr; exact hr
theorem RowIs.hit {i op : Nat} {r : Trp.ARow} {R : Option (List UInt8)} {s : List UInt8} (h : RowIs i r) (hr : (Trp.rowsL.drop i).findSome? (nameF op) = R) (hn : nameF op r = some s) : R = some s := by
  rw [h.drop, List.findSome?_cons, hn] at hr; exact hr.symm

def NamePost (R : Option (List UInt8)) (w : World) (e : Ending) (w' : World) : Prop := e = .returned (.tuple #[.string ⟨(R.getD []).toArray⟩, .bool R.isSome]) ∧ Below w.heap.size w w'

set_option maxRecDepth 100000 in
set_option maxHeartbeats 4000000 in
theorem asm_Name (op : Nat) (hop : op ≤ 255) (w : World) (hG : Gl w) : Calls Tryd.prog 4 #[.int .u8 (op : Int)] w (NamePost (Trp.asmName op) w) := by
  obtain ⟨R, hR⟩ : ∃ R, Trp.asmName op = R := ⟨_, rfl⟩
  rw [hR]
  rw [asmName_eq] at hR
  have HR := Aside0.mk hR
  have HG := Aside0.mk hG
  clear hR hG
  go_enter Tryd.func4, Tryd.ntmps4
  go_wp2_with (go_at_call 8; refine (asm_rows _).mono ?_; rintro e w' ⟨rfl, rfl⟩)
  obtain ⟨W1, hW1⟩ : ∃ W1, w.alloc (.cells rowCells 32) = W1 := ⟨_, rfl⟩
  rw [hW1]
  have hblk : W1.heap[w.heap.size]? = some (.cells rowCells 32 (0, 0)) := hW1 ▸ blk_new w _
  have HB1 : Aside0 (Below w.heap.size w W1) := ⟨hW1 ▸ (Below.refl _ _).alloc (Nat.le_refl _) _⟩
  obtain ⟨g, hg⟩ : ∃ g, w.heap.size = g := ⟨_, rfl⟩
  rw [hg] at hblk
  simp only [hg]
  have HBlk := Aside0.mk hblk
  clear hW1 hblk hg
  go_loopw [10] (fun v10 wr => ∃ i : Nat, i ≤ 17 ∧ v10 = .int .i64 i ∧ Aside0 ((Trp.rowsL.drop i).findSome? (nameF op) = R) ∧ Aside0 (Below W1.heap.size W1 wr)) (fun v10 _ => 17 - (intOf v10).toNat)
  case atStart => exact ⟨0, by omega, rfl, ⟨HR.out⟩, ⟨Below.refl _ _⟩⟩
  case round =>
    obtain ⟨i, hi, rfl, HRi, HBi⟩ := hrel
    by_cases hlt : i < 17
    · have HRow := Aside0.mk (rowIs i hlt)
      obtain ⟨r, hr⟩ : ∃ r, rowAt i = r := ⟨_, rfl⟩
      rw [hr] at HRow
      have hbw : wr.heap[g]? = some (.cells rowCells 32 (0, 0)) := (HBi.out.block g (blk_lt HBlk.out)).trans HBlk.out
      have e0 := (blk_cell hbw (i * 3)).trans HRow.out.c0
      have e1 := (blk_cell hbw (i * 3 + 1)).trans HRow.out.c1
      have e2 := (blk_cell hbw (i * 3 + 2)).trans HRow.out.c2
      clear hbw hr
      obtain ⟨a0, ha0⟩ : ∃ a0, r.at0 = a0 := ⟨_, rfl⟩
      have hbig := HRow.out.big
      rw [ha0] at e0 hbig
      have HA0 := Aside0.mk ha0
      clear ha0
      have HBr : Aside0 (Below w.heap.size w wr) := ⟨below_then HB1.out HB1.out.size HBi.out⟩
      have HGr : Aside0 (Gl (wr.alloc (.cells #[.int .u8 a0, .string ⟨r.ahead.toArray⟩, .string ⟨r.names.toArray⟩] 32))) := ⟨(HG.out.below HBr.out).below ((Below.refl _ _).alloc (Nat.le_refl _) _)⟩
      have hlen : r.parts.length ≤ 9223372036854775807 := by
        have h1 := HRow.out.split.2
        have h2 := Trp.countA_le [32] (r.names.length + 1) r.names
        have h3 := Trp.rows_count r HRow.out.mem
        have := HRow.out.len
        omega
      have hq := blk_new (wr.alloc (.cells #[.int .u8 a0, .string ⟨r.ahead.toArray⟩, .string ⟨r.names.toArray⟩] 32)) (.cells (strCellsOf r.parts) 9)
      have HBf : Aside0 (Below W1.heap.size W1 ((wr.alloc (.cells #[.int .u8 a0, .string ⟨r.ahead.toArray⟩, .string ⟨r.names.toArray⟩] 32)).alloc (.cells (strCellsOf r.parts) 9))) :=
        ⟨(HBi.out.alloc HBi.out.size _).alloc (by have := HBi.out.size; simp; omega) _⟩
      by_cases hA : (op : Int) < a0
      · have hn : nameF op r = none := by unfold nameF; rw [if_neg (by rw [HA0.out]; omega)]
        have HN := Aside0.mk hn
        have hk : ¬ (0 : Int) ≤ (op : Int) - a0 := by omega
        clear hn hq
        go_wp2_with (go_at_call 9; refine (split_at ⟨r.names.toArray⟩ ⟨#[32]⟩ r.parts HRow.out.split.1 HRow.out.split.2 _ HGr.out (by have := HRow.out.len; show r.names.length < _; omega) (by decide)).mono ?_; rintro e w' ⟨rfl, rfl⟩)
        go_roundw
        case rel => exact ⟨i + 1, by omega, by go_num, ⟨HRow.out.next HRi.out HN.out⟩, HBf⟩
        case measure => simp [intOf]; omega
      · obtain ⟨kk, hkk⟩ : ∃ kk, op = a0 + kk := ⟨op - a0, by omega⟩
        have hk0 : (op : Int) - a0 = kk := by omega
        have hk1 : (0 : Int) ≤ (op : Int) - a0 := by omega
        by_cases hB : kk < r.parts.length
        · have hn : nameF op r = some (r.ahead ++ r.parts[kk]) := by
            unfold nameF; rw [if_pos (by rw [HA0.out]; omega), HA0.out, show op - a0 = kk by omega, List.getElem?_eq_getElem hB]; rfl
          have HN := Aside0.mk hn
          have hcell : ((wr.alloc (.cells #[.int .u8 a0, .string ⟨r.ahead.toArray⟩, .string ⟨r.names.toArray⟩] 32)).alloc (.cells (strCellsOf r.parts) 9)).cell? ⟨wr.heap.size + 1, kk, none⟩ = some (.string ⟨r.parts[kk].toArray⟩) := by
            have := blk_cell hq kk
            simp only [World.size_alloc] at this
            rw [this]; simp [strCellsOf, hB]
          obtain ⟨pc, hpc⟩ : ∃ pc, r.parts[kk] = pc := ⟨_, rfl⟩
          have hpl := HRow.out.pl pc (hpc ▸ List.getElem_mem hB)
          have hal := HRow.out.ahl
          rw [hpc] at hcell HN
          have hz : ¬ 9223372036854775807 < r.ahead.length + pc.length := by omega
          clear hn hq hkk hA hpc
          go_upto_region 7 with (go_at_call 9; refine (split_at ⟨r.names.toArray⟩ ⟨#[32]⟩ r.parts HRow.out.split.1 HRow.out.split.2 _ HGr.out (by have := HRow.out.len; show r.names.length < _; omega) (by decide)).mono ?_; rintro e w' ⟨rfl, rfl⟩)
          go_quiet (fail)
          go_wp2
          go_ret2
          refine ⟨?_, below_then HB1.out HB1.out.size (pw_below_drewN HBf.out _)⟩
          rw [HRow.out.hit HRi.out HN.out]
          congr 1
        · have hn : nameF op r = none := by
            unfold nameF; rw [if_pos (by rw [HA0.out]; omega), HA0.out, show op - a0 = kk by omega, List.getElem?_eq_none (by omega)]; rfl
          have HN := Aside0.mk hn
          clear hn hq hkk hA
          go_wp2_with (go_at_call 9; refine (split_at ⟨r.names.toArray⟩ ⟨#[32]⟩ r.parts HRow.out.split.1 HRow.out.split.2 _ HGr.out (by have := HRow.out.len; show r.names.length < _; omega) (by decide)).mono ?_; rintro e w' ⟨rfl, rfl⟩)
          go_roundw
          case rel => exact ⟨i + 1, by omega, by go_num, ⟨HRow.out.next HRi.out HN.out⟩, HBf⟩
          case measure => simp [intOf]; omega
    · obtain rfl : i = 17 := by omega
      have HE : Aside0 (R = none) := ⟨by rw [← HRi.out]; rfl⟩
      go_wp2
      go_ret2
      exact ⟨by rw [HE.out]; rfl, below_then HB1.out HB1.out.size HBi.out⟩
end Go.Proofs.YteaphfmgcpanmaaDoor

namespace Trp

def form (k : Int) : ByteArray :=
  if k = 0 then ⟨#[63]⟩ else if k = 1 then ⟨#[]⟩ else if k = 2 then ⟨#[107]⟩ else if k = 3 then ⟨#[97]⟩ else if k = 4 then ⟨#[116]⟩
  else if k = 5 then ⟨#[97, 122]⟩ else if k = 6 then ⟨#[97, 98]⟩ else if k = 7 then ⟨#[122]⟩ else if k = 8 then ⟨#[99]⟩ else ⟨#[100]⟩
theorem form_all : ∀ n : Fin 256, rBeside (n.val : Int) = form (besides (n.val : Int)) ∧ 0 ≤ besides (n.val : Int) ∧ besides (n.val : Int) ≤ 9 := by decide +kernel
theorem form_of (n : Int) (h0 : 0 ≤ n) (h1 : n ≤ 255) : rBeside n = form (besides n) ∧ 0 ≤ besides n ∧ besides n ≤ 9 := by
  have := form_all ⟨n.toNat, by omega⟩
  simpa only [Int.toNat_of_nonneg h0] using this

def wide (n : Int) : Bool := decide (n < 0) || decide (4294967295 < n)
theorem wide_eq (n : Int) : wide n = !isIndex n := by
  unfold wide isIndex
  by_cases a : n < 0 <;> by_cases b : 4294967295 < n <;> simp [a, b] <;> omega
def rBadA (k a : Int) : Bool :=
  if k = 2 then decide (a ≠ 64 ∧ a ≠ 126 ∧ a ≠ 127)
  else if k = 8 then decide (a < -2147483648 ∨ 2147483647 < a)
  else if k = 9 then false
  else if 3 ≤ k ∧ k ≤ 6 then wide a
  else decide (a ≠ 0)
def rBadB (k b : Int) : Bool := if k = 6 then wide b else decide (b ≠ 0)
def rBadTo (k : Int) (l : List Int) : Bool := (decide (0 < l.length) && decide (k ≠ 4)) || l.any wide
def rInsCheck (x : Ins) : Int :=
  if besides x.op = 0 then 6
  else if 16 < x.tos.length then 2
  else if (rBadA (besides x.op) x.a || rBadB (besides x.op) x.b || rBadTo (besides x.op) x.tos) = true then 1 else 0

theorem any_wide (l : List Int) : l.any wide = !l.all isIndex := by
  induction l with
  | nil => rfl
  | cons a l ih => simp only [List.any_cons, List.all_cons, ih, wide_eq, Bool.not_and]
theorem rInsCheck_eq (x : Ins) (h0 : 0 ≤ x.op) (h1 : x.op ≤ 255) : rInsCheck x = insCheck x := by
  obtain ⟨-, hk0, hk9⟩ := form_of x.op h0 h1
  unfold rInsCheck insCheck
  generalize besides x.op = k at *
  by_cases c0 : k = 0
  · rw [if_pos c0, if_pos c0]
  rw [if_neg c0, if_neg c0]
  by_cases c1 : 16 < x.tos.length
  · rw [if_pos c1, if_pos c1]
  rw [if_neg c1, if_neg c1]
  have hA : rBadTo k x.tos = ((decide (0 < x.tos.length) && decide (k ≠ 4)) || !x.tos.all isIndex) := by unfold rBadTo; rw [any_wide]
  rw [hA]
  generalize x.tos.all isIndex = t
  generalize x.tos.length = n
  obtain rfl | rfl | rfl | rfl | rfl | rfl | rfl | rfl | rfl : k = 1 ∨ k = 2 ∨ k = 3 ∨ k = 4 ∨ k = 5 ∨ k = 6 ∨ k = 7 ∨ k = 8 ∨ k = 9 := by omega
  all_goals
    simp only [rBadA, rBadB, insGoodA, wide_eq]
    generalize hp : isIndex x.a = p
    generalize hq : isIndex x.b = q
    cases t <;> cases p <;> cases q <;> by_cases cn : 0 < n <;> by_cases cb : x.b = 0 <;> simp [cn, cb] <;> (try omega)
end Trp

namespace Go.Proofs.YteaphfmgcpanmaaDoor
set_option linter.unusedVariables false
set_option linter.unusedSimpArgs false
open Go.RowKit Go.Proofs.YteaphfmgcpanmaaDoorW.PrintWords

theorem ref_wide (n : Int) (w : World) :
    Calls Tryd.prog 72 #[.int .i64 n] w fun e w' => e = .returned (.bool (Trp.wide n)) ∧ w = w' := by
  go_enter Tryd.func72, Tryd.ntmps72
  go_wp2
  all_goals
    go_ret
    refine ⟨ret_bool ?_, rfl⟩
    unfold Trp.wide
    simp
    try omega
end Go.Proofs.YteaphfmgcpanmaaDoor

namespace Go.Proofs.YteaphfmgcpanmaaDoor
set_option linter.unusedVariables false
set_option linter.unusedSimpArgs false
open Go.RowKit Go.Proofs.YteaphfmgcpanmaaDoorW.PrintWords

theorem u64_neg (n : Int) (h0 : n < 0) (h1 : -9223372036854775808 ≤ n) : IntKind.u64.wrap (-(IntKind.u64.wrap n)) = -n := by
  have hs : IntKind.u64.signed = false := rfl
  unfold IntKind.wrap; simp [IntKind.bits, hs]; omega
set_option maxHeartbeats 1000000 in
theorem ref_digitsN (n : Int) (h0 : n < 0) (h1 : -9223372036854775808 ≤ n) (w : World) :
    Calls Tryd.prog 11 #[.int .i64 n] w fun e w' => e = .returned (.string ⟨(45 :: Trp.dig 20 n.natAbs []).toArray⟩) ∧ Below w.heap.size w w' := by
  have hbl : decide (n < 0) = true := decide_eq_true h0
  obtain ⟨m, hm⟩ : ∃ m, -n = m := ⟨_, rfl⟩
  obtain ⟨r, hr⟩ : ∃ r, Trp.dig 20 n.natAbs [] = r := ⟨_, rfl⟩
  rw [hr]
  rw [show n.natAbs = m.toNat by omega] at hr
  have hrl : r.length ≤ 20 := by
    rw [← hr]; exact Trp.dig_len 20 _ []
  obtain ⟨U, hU⟩ : ∃ U, IntKind.u64.wrap n = U := ⟨_, rfl⟩
  have hV : IntKind.u64.wrap (-U) = m := by rw [← hU, ← hm]; exact u64_neg n h0 h1
  have hmm : 0 ≤ m ∧ m ≤ 9223372036854775808 := by omega
  have HM := Aside0.mk hmm
  clear hmm hm
  go_enter Tryd.func11, Tryd.ntmps11
  go_wp2
  go_loopg [3, 5] 19 (fun k v3 v5 w' => ∃ (u : Int) (acc : List UInt8), v3 = .int .u64 u ∧ v5 = .string ⟨acc.toArray⟩ ∧ Aside0 (0 ≤ u ∧ u < 18446744073709551616 ∧ Trp.dig (k + 1) u.toNat acc = r ∧ acc.length + k = 19 ∧ (u.toNat < 10 ^ (k + 1))) ∧ Aside0 (Below w.heap.size w w'))
  case atStart => exact ⟨m, [], rfl, rfl, ⟨HM.out.1, by have := HM.out; omega, hr, rfl, by have := HM.out; omega⟩, ⟨Below.refl _ _⟩⟩
  case round =>
    obtain ⟨u, acc, rfl, rfl, H, HB⟩ := hrel
    obtain ⟨hu0, hu1, hd, hl, hp⟩ := H.out
    obtain ⟨t, ht⟩ : ∃ t, (⟨#[UInt8.ofNat (wrap64 (IntKind.u64.wrap (48 + Int.tmod u 10)) % 256).toNat]⟩ : ByteArray) = t := ⟨_, rfl⟩
    obtain ⟨q, hq⟩ : ∃ q, IntKind.u64.wrap (Int.tdiv u 10) = q := ⟨_, rfl⟩
    have hq' : q = u / 10 := by
      rw [← hq, Int.tdiv_eq_ediv_of_nonneg hu0]; unfold IntKind.wrap; simp [IntKind.bits]; omega
    have ht' : t = ⟨#[UInt8.ofNat (48 + u.toNat % 10)]⟩ := by
      rw [← ht]
      have : (wrap64 (IntKind.u64.wrap (48 + Int.tmod u 10)) % 256).toNat = 48 + u.toNat % 10 := by
        rw [Int.tmod_eq_emod_of_nonneg hu0]; unfold IntKind.wrap wrap64; simp [IntKind.bits]; omega
      rw [this]
    have hs3 : ¬ (9223372036854775807 < t.size + acc.length) := by rw [ht', sz0]; omega
    have hs1 : (t.size + (⟨acc.toArray⟩ : ByteArray).size ≤ 9223372036854775807) = True := eq_true (by rw [ht', sz0, bsize]; omega)
    have happ : t ++ (⟨acc.toArray⟩ : ByteArray) = ⟨(UInt8.ofNat (48 + u.toNat % 10) :: acc).toArray⟩ := by rw [ht', app1]
    obtain ⟨s, hs⟩ : ∃ s, t ++ (⟨acc.toArray⟩ : ByteArray) = s := ⟨_, rfl⟩
    rw [hs] at happ
    rw [Trp.dig] at hd
    have hqn : q.toNat = u.toNat / 10 := by omega
    have hs2 : ¬ (9223372036854775807 < s.size) := by rw [happ, sz1]; omega
    have hs4 : ¬ (9223372036854775807 < 1 + s.size) := by rw [happ, sz1]; omega
    have HA := Aside0.mk happ
    have HT := Aside0.mk ht'
    have HD := Aside0.mk hd
    by_cases c : q = 0
    · have hz : u.toNat / 10 = 0 := by omega
      have c1 : (q == 0) = true := beq_iff_eq.mpr c
      clear hp hqn hq' ht' hl hu1 hu0 H happ hd c
      go_wp2_with (go_at_call 22; refine (ref_chr _ _).mono ?_; rintro e w2 ⟨rfl, hb⟩; rw [ht])
      go_ret
      have hd := HD.out
      rw [if_pos hz] at hd
      exact ⟨ret_str (by rw [HA.out, hd]; apply ByteArray.ext; simp), below_step HB.out hb⟩
    · have hz : ¬ u.toNat / 10 = 0 := by omega
      have c1 : (q == 0) = false := beq_eq_false_iff_ne.mpr c
      have hgk : gk ≠ 0 := by
        rintro rfl; omega
      have hp' : q.toNat < 10 ^ gk := by
        have : (10 : Nat) ^ (gk + 1) = 10 ^ gk * 10 := Nat.pow_succ ..
        omega
      have hq0 : 0 ≤ q ∧ q < 18446744073709551616 := by omega
      have HN := Aside0.mk hqn
      have HP := Aside0.mk hp'
      have HZ := Aside0.mk hz
      have HQ := Aside0.mk hq0
      clear hz hq0 hp hqn hq' ht' hu1 hu0 H happ hd c hp'
      go_wp2_with (go_at_call 22; refine (ref_chr _ _).mono ?_; rintro e w2 ⟨rfl, hb⟩; rw [ht])
      go_roundg (gk - 1)
      case measure => omega
      case rel =>
        have hd := HD.out
        rw [if_neg HZ.out] at hd
        have hq0 := HQ.out
        refine ⟨q, UInt8.ofNat (48 + u.toNat % 10) :: acc, rfl, by rw [HA.out], ⟨hq0.1, hq0.2, ?_, ?_, ?_⟩, ⟨below_step HB.out hb⟩⟩
        · rw [show gk - 1 + 1 = gk by omega, HN.out]; exact hd
        · rw [List.length_cons]; omega
        · rw [show gk - 1 + 1 = gk by omega]; exact HP.out
theorem ref_digits_any (n : Int) (h0 : -9223372036854775808 ≤ n) (h1 : n ≤ 9223372036854775807) (w : World) :
    Calls Tryd.prog 11 #[.int .i64 n] w fun e w' => e = .returned (.string ⟨(Lib.itoa n).toArray⟩) ∧ Below w.heap.size w w' := by
  rw [← Trp.rDigits_eq n h0 h1]
  unfold Trp.rDigits
  by_cases c : n < 0
  · rw [if_pos c]; exact ref_digitsN n c h0 w
  · rw [if_neg c, List.nil_append, show n.natAbs = n.toNat by omega]
    exact ref_digits n (by omega) h1 w

def pairF (op : Nat) (p : List UInt8 × List UInt8) : Bool := decide (p.1 = Trp.dig 20 op [])
theorem rName_eq (op : Nat) : Trp.rName op = (Trp.pairsL.find? (pairF op)).map (·.2) := rfl
theorem pairs_len : Trp.pairsL.length = 109 ∧ Trp.namesL.length = 109 := by decide
theorem pair_at (i : Nat) (h : i < 109) : Trp.pairsL.getD i ([], []) = ((Lib.cut (Trp.namesL.getD i []) [32]).1, (Lib.cut (Trp.namesL.getD i []) [32]).2.1) := by
  have h1 : i < Trp.pairsL.length := by rw [pairs_len.1]; exact h
  have h2 : i < Trp.namesL.length := by rw [pairs_len.2]; exact h
  have h3 := Trp.names_cut
  have h4 : Trp.pairsL[i]? = (Trp.namesL.map (fun s => ((Lib.cut s [32]).1, (Lib.cut s [32]).2.1)))[i]? := by rw [h3]
  rw [List.getElem?_map, List.getElem?_eq_getElem h2, List.getElem?_eq_getElem h1] at h4
  rw [List.getD_eq_getElem?_getD, List.getElem?_eq_getElem h1, List.getD_eq_getElem?_getD, List.getElem?_eq_getElem h2]
  exact Option.some.inj h4
theorem pair_drop (i : Nat) (h : i < 109) : Trp.pairsL.drop i = Trp.pairsL.getD i ([], []) :: Trp.pairsL.drop (i + 1) := by
  have h1 : i < Trp.pairsL.length := by rw [pairs_len.1]; exact h
  rw [List.drop_eq_getElem_cons h1]
  simp [List.getD_eq_getElem?_getD, h1]
theorem names_small : ∀ s ∈ Trp.namesL, s.length ≤ 100 := by decide +kernel
theorem names_countB : Lib.countB ⟨Trp.namesB.toArray⟩ ⟨#[44, 32]⟩ + 1 = Trp.namesL.length := by
  show Lib.countFrom [44, 32] (Trp.namesB.length + 1) Trp.namesB + 1 = _
  rw [Trp.countA_eq, Trp.names_count, pairs_len.2]

set_option maxHeartbeats 4000000 in
set_option maxRecDepth 100000 in
theorem ref_AsmName (op : Nat) (hop : op ≤ 255) (w : World) (hG : Gl w) : Calls Tryd.prog 5 #[.int .u8 (op : Int)] w (NamePost (Trp.asmName op) w) := by
  have hrn : Trp.asmName op = Trp.rName op := Trp.names_all ⟨op, by omega⟩
  rw [hrn, rName_eq]
  clear hrn
  obtain ⟨R, hR⟩ : ∃ R, (Trp.pairsL.find? (pairF op)).map (·.2) = R := ⟨_, rfl⟩
  rw [hR]
  have HR := Aside0.mk hR
  have HG := Aside0.mk hG
  clear hR hG
  obtain ⟨m, hm⟩ := HG.out
  have hsp := split_at ⟨Trp.namesB.toArray⟩ ⟨#[44, 32]⟩ Trp.namesL Trp.names_one names_countB w HG.out (by decide) (by decide)
  rw [pairs_len.2] at hsp
  have HSP := Aside0.mk hsp
  clear hsp hm
  go_enter Tryd.func5, Tryd.ntmps5
  go_wp2_with (go_at_call 9; refine HSP.out.mono ?_; rintro e w' ⟨rfl, rfl⟩)
  obtain ⟨W1, hW1⟩ : ∃ W1, w.alloc (.cells (strCellsOf Trp.namesL) 9) = W1 := ⟨_, rfl⟩
  rw [hW1]
  have hblk : W1.heap[w.heap.size]? = some (.cells (strCellsOf Trp.namesL) 9 (0, 0)) := hW1 ▸ blk_new w _
  have HB1 : Aside0 (Below w.heap.size w W1) := ⟨hW1 ▸ (Below.refl _ _).alloc (Nat.le_refl _) _⟩
  obtain ⟨g, hg⟩ : ∃ g, w.heap.size = g := ⟨_, rfl⟩
  rw [hg] at hblk
  simp only [hg]
  have HBlk := Aside0.mk hblk
  clear hW1 hblk hg
  go_loopw [11] (fun v11 wr => ∃ i : Nat, i ≤ 109 ∧ v11 = .int .i64 i ∧ Aside0 (((Trp.pairsL.drop i).find? (pairF op)).map (·.2) = R) ∧ Aside0 (Below W1.heap.size W1 wr)) (fun v11 _ => 109 - (intOf v11).toNat)
  case atStart => exact ⟨0, by omega, rfl, ⟨HR.out⟩, ⟨Below.refl _ _⟩⟩
  case round =>
    obtain ⟨i, hi, rfl, HRi, HBi⟩ := hrel
    by_cases hlt : i < 109
    · have hbw : wr.heap[g]? = some (.cells (strCellsOf Trp.namesL) 9 (0, 0)) := (HBi.out.block g (blk_lt HBlk.out)).trans HBlk.out
      obtain ⟨s, hs⟩ : ∃ s, Trp.namesL.getD i [] = s := ⟨_, rfl⟩
      have e0 : wr.cell? ⟨g, i, none⟩ = some (.string ⟨s.toArray⟩) := by
        rw [blk_cell hbw i, ← hs]
        have h2 : i < Trp.namesL.length := by rw [pairs_len.2]; exact hlt
        simp [strCellsOf, List.getD_eq_getElem?_getD, h2]
      have hp := pair_at i hlt
      rw [hs] at hp
      have hsm : s.length ≤ 100 := by
        have h2 : i < Trp.namesL.length := by rw [pairs_len.2]; exact hlt
        rw [← hs, List.getD_eq_getElem?_getD, List.getElem?_eq_getElem h2]; exact names_small _ (List.getElem_mem h2)
      obtain ⟨n, hn⟩ : ∃ n, (Lib.cut s [32]).1 = n := ⟨_, rfl⟩
      obtain ⟨nm, hnm⟩ : ∃ nm, (Lib.cut s [32]).2.1 = nm := ⟨_, rfl⟩
      rw [hn, hnm] at hp
      have HP := Aside0.mk hp
      have HBr : Aside0 (Below w.heap.size w wr) := ⟨below_then HB1.out HB1.out.size HBi.out⟩
      obtain ⟨m, hm⟩ := HG.out.below HBr.out
      have hcut : ∀ W : World, W.cell? ⟨0, 0, none⟩ = some (.int .i64 m) → Calls Tryd.prog 10 #[.string ⟨s.toArray⟩, .string ⟨#[32]⟩] W fun e w' => e = .returned (.tuple #[.string ⟨n.toArray⟩, .string ⟨nm.toArray⟩, .bool (Lib.cut s [32]).2.2]) ∧ ∃ k, w' = W.drewN k := fun W hW => by
        have := Tryd.strings_Cut ⟨s.toArray⟩ ⟨#[32]⟩ m W (by show s.length < _; omega) hW
        rw [← hn, ← hnm]; exact this
      have HCut := Aside0.mk (hcut wr hm)
      have hdg : ∀ W : World, Calls Tryd.prog 11 #[.int .i64 (op : Int)] W fun e w' => e = .returned (.string ⟨(Trp.dig 20 op []).toArray⟩) ∧ Below W.heap.size W w' := fun W => ref_digits (op : Int) (by omega) (by omega) W
      have HDg := Aside0.mk hdg
      obtain ⟨dg, hdgd⟩ : ∃ dg, Trp.dig 20 op [] = dg := ⟨_, rfl⟩
      rw [hdgd] at HDg
      have HDD := Aside0.mk hdgd
      have hop' : wrap64 (op : Int) = op := by unfold wrap64; omega
      clear hbw hs hp hn hnm hcut hdg hdgd hm
      cases hnd : (n == dg) with
      | true =>
        go_wp2_with (first
          | (go_at_call 10; refine HCut.out.mono ?_; rintro e w2 ⟨rfl, k2, rfl⟩)
          | (go_at_call 11; refine (HDg.out _).mono ?_; rintro e w3 ⟨rfl, hb3⟩; have HB3 := Aside0.mk hb3; clear hb3))
        go_ret2
        have hr := HRi.out
        rw [pair_drop i hlt, HP.out, List.find?_cons_of_pos (by unfold pairF; rw [HDD.out]; simpa using hnd)] at hr
        refine ⟨by rw [← hr]; rfl, below_then HBr.out HBr.out.size (below_then (pw_below_drewN (Below.refl _ _) _) (Nat.le_refl _) HB3.out)⟩
      | false =>
        go_wp2_with (first
          | (go_at_call 10; refine HCut.out.mono ?_; rintro e w2 ⟨rfl, k2, rfl⟩)
          | (go_at_call 11; refine (HDg.out _).mono ?_; rintro e w3 ⟨rfl, hb3⟩; have HB3 := Aside0.mk hb3; clear hb3))
        go_roundw
        case rel => exact ⟨i + 1, by omega, by go_num, ⟨by rw [← HRi.out, pair_drop i hlt, HP.out, List.find?_cons_of_neg (by unfold pairF; rw [HDD.out]; simpa using hnd)]⟩, ⟨below_then HBi.out HBi.out.size (below_then (pw_below_drewN (Below.refl _ _) _) (Nat.le_refl _) HB3.out)⟩⟩
        case measure => simp [intOf]; omega
    · obtain rfl : i = 109 := by omega
      have HE : Aside0 (R = none) := ⟨by rw [← HRi.out, List.drop_eq_nil_of_le (by rw [pairs_len.1]; exact Nat.le_refl _)]; rfl⟩
      go_wp2
      go_ret2
      exact ⟨by rw [HE.out]; rfl, below_then HB1.out HB1.out.size HBi.out⟩
end Go.Proofs.YteaphfmgcpanmaaDoor

namespace Go.Proofs.YteaphfmgcpanmaaDoor
set_option linter.unusedVariables false
set_option linter.unusedSimpArgs false
open Go.RowKit Go.Proofs.YteaphfmgcpanmaaDoorW.PrintWords

theorem besides_cases (op : Int) : Trp.besides op = 0 ∨ Trp.besides op = 1 ∨ Trp.besides op = 2 ∨ Trp.besides op = 3 ∨ Trp.besides op = 4 ∨ Trp.besides op = 5 ∨ Trp.besides op = 6 ∨ Trp.besides op = 7 ∨ Trp.besides op = 8 ∨ Trp.besides op = 9 := by
  unfold Trp.besides
  repeat' split
  all_goals simp
theorem besides_at {op k : Int} (hk : Trp.besides op = k) (w : World) :
    Calls Tryd.prog 40 #[.int .u8 op] w fun e w' => e = .returned (.int .i64 k) ∧ Below w.heap.size w w' := hk ▸ ins_besides op w
theorem take_all (l : List Int) (i : Nat) (h : i < l.length) : (l.take (i + 1)).all Trp.isIndex = ((l.take i).all Trp.isIndex && Trp.isIndex (rd l i)) := by
  rw [List.take_succ_eq_append_getElem h, List.all_append]
  simp [rd, List.getD_eq_getElem?_getD, h]
theorem w6432 (a : Int) : wrap64 (wrap32 a) = wrap32 a := by unfold wrap64 wrap32; omega
def goodRes (g : Bool) : Int := if g = true then 0 else 1
theorem good_yes {Y e : Bool} (h : Y = e) (hy : (!Y) = false) : 0 = goodRes e := by
  subst h
  cases Y
  · exact absurd hy (by decide)
  · rfl
theorem good_no {Y e : Bool} (h : Y = e) (hy : (!Y) = true) : 1 = goodRes e := by
  subst h
  cases Y
  · rfl
  · exact absurd hy (by decide)
theorem wrap32_self (a : Int) : (a == wrap32 a) = decide (-2147483648 ≤ a ∧ a ≤ 2147483647) := by
  rw [Bool.eq_iff_iff, beq_iff_eq, decide_eq_true_eq]
  unfold wrap32
  omega

set_option maxHeartbeats 1000000 in
theorem ins_Check_1 (op a b : Int) (l : List Int) (A : Option Addr) (c : Nat) (w : World) (hk : Trp.besides op = 1) (hl : l.length ≤ c) (hC : (Kd.int .i64).C w A l.length l) (h16 : l.length ≤ 16) (h4 : l.length ≤ 0) (h6 : b = 0) :
    Calls Tryd.prog 26 #[.agg #[.int .u8 op, .int .i64 a, .int .i64 b, .slice A l.length c]] w fun e w' => e = .returned (.int .i64 (goodRes (Trp.insGoodA 1 a b && l.all Trp.isIndex))) ∧ Below w.heap.size w w' := by
  subst h6
  obtain ⟨G, hG⟩ : ∃ G, Trp.insGoodA 1 a 0 = G := ⟨_, rfl⟩
  rw [hG]
  have HG := Lib.hid hG
  clear hG
  have HK := Lib.hid hk
  clear hk
  go_enter Tryd.func26, Tryd.ntmps26
  go_wp2_with (first | (go_at_call 40; refine (besides_at HK.out _).mono ?_; rintro e w1 ⟨rfl, hb⟩; obtain ⟨hcc, hff⟩ := bcell hb) | (go_at_call 41; refine (ins_isIndex _ _).mono ?_; rintro e w' ⟨rfl, rfl⟩))
  all_goals
    have hb0 : Below w.heap.size w w1 := below_then ((Below.refl _ _).alloc (Nat.le_refl _) _) (by simp) hb
    have hC1 := Kd.C_below hC hb0
    clear hcc hff hb hC
    go_loop [4, 85] (fun g i => ∃ (j : Nat) (Y : Bool), j ≤ l.length ∧ g = .bool Y ∧ Y = (G && (l.take j).all Trp.isIndex) ∧ i = .int .i64 j) (fun _ i => l.length - (intOf i).toNat)
    case atStart => exact ⟨0, _, Nat.zero_le _, rfl, by rw [← HG.out]; simp [Trp.insGoodA]; rfl, rfl⟩
    case round =>
      obtain ⟨j, Y, hj, rfl, hY, rfl⟩ := hrel
      have HY := Lib.hid hY
      clear hY
      by_cases hlt : j < l.length
      · obtain ⟨ad, rfl, hcell⟩ := Kd.at_int hC1 (j : Int) (by omega) (by omega)
        rw [Int.toNat_natCast] at hcell
        have HT := Lib.hid (take_all l j hlt)
        go_wp2_with (go_at_call 41; refine (ins_isIndex _ _).mono ?_; rintro e w' ⟨rfl, rfl⟩)
        all_goals
          go_round
          case rel => exact ⟨j + 1, _, by omega, rfl, by rw [HT.out, ← Bool.and_assoc, ← HY.out]; simp only [*, Bool.true_and, Bool.false_and], by go_num⟩
          case measure => simp [intOf]; omega
      · obtain rfl : j = l.length := by omega
        rw [List.take_length] at HY
        clear hlt hj
        go_wp2
        all_goals
          go_ret
          exact ⟨ret_int (by first | exact good_yes HY.out (by assumption) | exact good_no HY.out (by assumption)), hb0⟩

set_option maxHeartbeats 1000000 in
theorem ins_Check_2 (op a b : Int) (l : List Int) (A : Option Addr) (c : Nat) (w : World) (hk : Trp.besides op = 2) (hl : l.length ≤ c) (hC : (Kd.int .i64).C w A l.length l) (h16 : l.length ≤ 16) (h4 : l.length ≤ 0) (h6 : b = 0) :
    Calls Tryd.prog 26 #[.agg #[.int .u8 op, .int .i64 a, .int .i64 b, .slice A l.length c]] w fun e w' => e = .returned (.int .i64 (goodRes (Trp.insGoodA 2 a b && l.all Trp.isIndex))) ∧ Below w.heap.size w w' := by
  subst h6
  obtain ⟨G, hG⟩ : ∃ G, Trp.insGoodA 2 a 0 = G := ⟨_, rfl⟩
  rw [hG]
  have h2 : a = 64 ∨ a = 127 ∨ a = 126 ∨ ((a == 64) = false ∧ (a == 127) = false ∧ (a == 126) = false) := by simp only [beq_eq_false_iff_ne]; omega
  rcases h2 with rfl | rfl | rfl | ⟨h2a, h2b, h2c⟩
  all_goals
    have HG := Lib.hid hG
    clear hG
    have HK := Lib.hid hk
    clear hk
    go_enter Tryd.func26, Tryd.ntmps26
    go_wp2_with (first | (go_at_call 40; refine (besides_at HK.out _).mono ?_; rintro e w1 ⟨rfl, hb⟩; obtain ⟨hcc, hff⟩ := bcell hb) | (go_at_call 41; refine (ins_isIndex _ _).mono ?_; rintro e w' ⟨rfl, rfl⟩))
    all_goals
      have hb0 : Below w.heap.size w w1 := below_then ((Below.refl _ _).alloc (Nat.le_refl _) _) (by simp) hb
      have hC1 := Kd.C_below hC hb0
      clear hcc hff hb hC
      go_loop [4, 85] (fun g i => ∃ (j : Nat) (Y : Bool), j ≤ l.length ∧ g = .bool Y ∧ Y = (G && (l.take j).all Trp.isIndex) ∧ i = .int .i64 j) (fun _ i => l.length - (intOf i).toNat)
      case atStart => exact ⟨0, _, Nat.zero_le _, rfl, by rw [← HG.out]; (first | (simp [Trp.insGoodA]; done) | (simp only [beq_eq_false_iff_ne, ne_eq] at h2a h2b h2c; simp [Trp.insGoodA, h2a, h2b, h2c])), rfl⟩
      case round =>
        obtain ⟨j, Y, hj, rfl, hY, rfl⟩ := hrel
        have HY := Lib.hid hY
        clear hY
        by_cases hlt : j < l.length
        · obtain ⟨ad, rfl, hcell⟩ := Kd.at_int hC1 (j : Int) (by omega) (by omega)
          rw [Int.toNat_natCast] at hcell
          have HT := Lib.hid (take_all l j hlt)
          go_wp2_with (go_at_call 41; refine (ins_isIndex _ _).mono ?_; rintro e w' ⟨rfl, rfl⟩)
          all_goals
            go_round
            case rel => exact ⟨j + 1, _, by omega, rfl, by rw [HT.out, ← Bool.and_assoc, ← HY.out]; simp only [*, Bool.true_and, Bool.false_and], by go_num⟩
            case measure => simp [intOf]; omega
        · obtain rfl : j = l.length := by omega
          rw [List.take_length] at HY
          clear hlt hj
          go_wp2
          all_goals
            go_ret
            exact ⟨ret_int (by first | exact good_yes HY.out (by assumption) | exact good_no HY.out (by assumption)), hb0⟩

set_option maxHeartbeats 1000000 in
theorem ins_Check_3 (op a b : Int) (l : List Int) (A : Option Addr) (c : Nat) (w : World) (hk : Trp.besides op = 3) (hl : l.length ≤ c) (hC : (Kd.int .i64).C w A l.length l) (h16 : l.length ≤ 16) (h4 : l.length ≤ 0) (h6 : b = 0) :
    Calls Tryd.prog 26 #[.agg #[.int .u8 op, .int .i64 a, .int .i64 b, .slice A l.length c]] w fun e w' => e = .returned (.int .i64 (goodRes (Trp.insGoodA 3 a b && l.all Trp.isIndex))) ∧ Below w.heap.size w w' := by
  subst h6
  obtain ⟨G, hG⟩ : ∃ G, Trp.insGoodA 3 a 0 = G := ⟨_, rfl⟩
  rw [hG]
  have HG := Lib.hid hG
  clear hG
  have HK := Lib.hid hk
  clear hk
  go_enter Tryd.func26, Tryd.ntmps26
  go_wp2_with (first | (go_at_call 40; refine (besides_at HK.out _).mono ?_; rintro e w1 ⟨rfl, hb⟩; obtain ⟨hcc, hff⟩ := bcell hb) | (go_at_call 41; refine (ins_isIndex _ _).mono ?_; rintro e w' ⟨rfl, rfl⟩))
  all_goals
    have hb0 : Below w.heap.size w w1 := below_then ((Below.refl _ _).alloc (Nat.le_refl _) _) (by simp) hb
    have hC1 := Kd.C_below hC hb0
    clear hcc hff hb hC
    go_loop [4, 85] (fun g i => ∃ (j : Nat) (Y : Bool), j ≤ l.length ∧ g = .bool Y ∧ Y = (G && (l.take j).all Trp.isIndex) ∧ i = .int .i64 j) (fun _ i => l.length - (intOf i).toNat)
    case atStart => exact ⟨0, _, Nat.zero_le _, rfl, by rw [← HG.out]; simp [Trp.insGoodA], rfl⟩
    case round =>
      obtain ⟨j, Y, hj, rfl, hY, rfl⟩ := hrel
      have HY := Lib.hid hY
      clear hY
      by_cases hlt : j < l.length
      · obtain ⟨ad, rfl, hcell⟩ := Kd.at_int hC1 (j : Int) (by omega) (by omega)
        rw [Int.toNat_natCast] at hcell
        have HT := Lib.hid (take_all l j hlt)
        go_wp2_with (go_at_call 41; refine (ins_isIndex _ _).mono ?_; rintro e w' ⟨rfl, rfl⟩)
        all_goals
          go_round
          case rel => exact ⟨j + 1, _, by omega, rfl, by rw [HT.out, ← Bool.and_assoc, ← HY.out]; simp only [*, Bool.true_and, Bool.false_and], by go_num⟩
          case measure => simp [intOf]; omega
      · obtain rfl : j = l.length := by omega
        rw [List.take_length] at HY
        clear hlt hj
        go_wp2
        all_goals
          go_ret
          exact ⟨ret_int (by first | exact good_yes HY.out (by assumption) | exact good_no HY.out (by assumption)), hb0⟩

set_option maxHeartbeats 1000000 in
theorem ins_Check_4 (op a b : Int) (l : List Int) (A : Option Addr) (c : Nat) (w : World) (hk : Trp.besides op = 4) (hl : l.length ≤ c) (hC : (Kd.int .i64).C w A l.length l) (h16 : l.length ≤ 16) (h6 : b = 0) :
    Calls Tryd.prog 26 #[.agg #[.int .u8 op, .int .i64 a, .int .i64 b, .slice A l.length c]] w fun e w' => e = .returned (.int .i64 (goodRes (Trp.insGoodA 4 a b && l.all Trp.isIndex))) ∧ Below w.heap.size w w' := by
  subst h6
  obtain ⟨G, hG⟩ : ∃ G, Trp.insGoodA 4 a 0 = G := ⟨_, rfl⟩
  rw [hG]
  have HG := Lib.hid hG
  clear hG
  have HK := Lib.hid hk
  clear hk
  go_enter Tryd.func26, Tryd.ntmps26
  go_wp2_with (first | (go_at_call 40; refine (besides_at HK.out _).mono ?_; rintro e w1 ⟨rfl, hb⟩; obtain ⟨hcc, hff⟩ := bcell hb) | (go_at_call 41; refine (ins_isIndex _ _).mono ?_; rintro e w' ⟨rfl, rfl⟩))
  all_goals
    have hb0 : Below w.heap.size w w1 := below_then ((Below.refl _ _).alloc (Nat.le_refl _) _) (by simp) hb
    have hC1 := Kd.C_below hC hb0
    clear hcc hff hb hC
    go_loop [4, 85] (fun g i => ∃ (j : Nat) (Y : Bool), j ≤ l.length ∧ g = .bool Y ∧ Y = (G && (l.take j).all Trp.isIndex) ∧ i = .int .i64 j) (fun _ i => l.length - (intOf i).toNat)
    case atStart => exact ⟨0, _, Nat.zero_le _, rfl, by rw [← HG.out]; simp [Trp.insGoodA], rfl⟩
    case round =>
      obtain ⟨j, Y, hj, rfl, hY, rfl⟩ := hrel
      have HY := Lib.hid hY
      clear hY
      by_cases hlt : j < l.length
      · obtain ⟨ad, rfl, hcell⟩ := Kd.at_int hC1 (j : Int) (by omega) (by omega)
        rw [Int.toNat_natCast] at hcell
        have HT := Lib.hid (take_all l j hlt)
        go_wp2_with (go_at_call 41; refine (ins_isIndex _ _).mono ?_; rintro e w' ⟨rfl, rfl⟩)
        all_goals
          go_round
          case rel => exact ⟨j + 1, _, by omega, rfl, by rw [HT.out, ← Bool.and_assoc, ← HY.out]; simp only [*, Bool.true_and, Bool.false_and], by go_num⟩
          case measure => simp [intOf]; omega
      · obtain rfl : j = l.length := by omega
        rw [List.take_length] at HY
        clear hlt hj
        go_wp2
        all_goals
          go_ret
          exact ⟨ret_int (by first | exact good_yes HY.out (by assumption) | exact good_no HY.out (by assumption)), hb0⟩

set_option maxHeartbeats 1000000 in
theorem ins_Check_5 (op a b : Int) (l : List Int) (A : Option Addr) (c : Nat) (w : World) (hk : Trp.besides op = 5) (hl : l.length ≤ c) (hC : (Kd.int .i64).C w A l.length l) (h16 : l.length ≤ 16) (h4 : l.length ≤ 0) (h6 : b = 0) :
    Calls Tryd.prog 26 #[.agg #[.int .u8 op, .int .i64 a, .int .i64 b, .slice A l.length c]] w fun e w' => e = .returned (.int .i64 (goodRes (Trp.insGoodA 5 a b && l.all Trp.isIndex))) ∧ Below w.heap.size w w' := by
  subst h6
  obtain ⟨G, hG⟩ : ∃ G, Trp.insGoodA 5 a 0 = G := ⟨_, rfl⟩
  rw [hG]
  have HG := Lib.hid hG
  clear hG
  have HK := Lib.hid hk
  clear hk
  go_enter Tryd.func26, Tryd.ntmps26
  go_wp2_with (first | (go_at_call 40; refine (besides_at HK.out _).mono ?_; rintro e w1 ⟨rfl, hb⟩; obtain ⟨hcc, hff⟩ := bcell hb) | (go_at_call 41; refine (ins_isIndex _ _).mono ?_; rintro e w' ⟨rfl, rfl⟩))
  all_goals
    have hb0 : Below w.heap.size w w1 := below_then ((Below.refl _ _).alloc (Nat.le_refl _) _) (by simp) hb
    have hC1 := Kd.C_below hC hb0
    clear hcc hff hb hC
    go_loop [4, 85] (fun g i => ∃ (j : Nat) (Y : Bool), j ≤ l.length ∧ g = .bool Y ∧ Y = (G && (l.take j).all Trp.isIndex) ∧ i = .int .i64 j) (fun _ i => l.length - (intOf i).toNat)
    case atStart => exact ⟨0, _, Nat.zero_le _, rfl, by rw [← HG.out]; simp [Trp.insGoodA], rfl⟩
    case round =>
      obtain ⟨j, Y, hj, rfl, hY, rfl⟩ := hrel
      have HY := Lib.hid hY
      clear hY
      by_cases hlt : j < l.length
      · obtain ⟨ad, rfl, hcell⟩ := Kd.at_int hC1 (j : Int) (by omega) (by omega)
        rw [Int.toNat_natCast] at hcell
        have HT := Lib.hid (take_all l j hlt)
        go_wp2_with (go_at_call 41; refine (ins_isIndex _ _).mono ?_; rintro e w' ⟨rfl, rfl⟩)
        all_goals
          go_round
          case rel => exact ⟨j + 1, _, by omega, rfl, by rw [HT.out, ← Bool.and_assoc, ← HY.out]; simp only [*, Bool.true_and, Bool.false_and], by go_num⟩
          case measure => simp [intOf]; omega
      · obtain rfl : j = l.length := by omega
        rw [List.take_length] at HY
        clear hlt hj
        go_wp2
        all_goals
          go_ret
          exact ⟨ret_int (by first | exact good_yes HY.out (by assumption) | exact good_no HY.out (by assumption)), hb0⟩

set_option maxHeartbeats 1000000 in
theorem ins_Check_6 (op a b : Int) (l : List Int) (A : Option Addr) (c : Nat) (w : World) (hk : Trp.besides op = 6) (hl : l.length ≤ c) (hC : (Kd.int .i64).C w A l.length l) (h16 : l.length ≤ 16) (h4 : l.length ≤ 0) :
    Calls Tryd.prog 26 #[.agg #[.int .u8 op, .int .i64 a, .int .i64 b, .slice A l.length c]] w fun e w' => e = .returned (.int .i64 (goodRes (Trp.insGoodA 6 a b && l.all Trp.isIndex))) ∧ Below w.heap.size w w' := by
  obtain ⟨G, hG⟩ : ∃ G, Trp.insGoodA 6 a b = G := ⟨_, rfl⟩
  rw [hG]
  have HG := Lib.hid hG
  clear hG
  have HK := Lib.hid hk
  clear hk
  go_enter Tryd.func26, Tryd.ntmps26
  go_wp2_with (first | (go_at_call 40; refine (besides_at HK.out _).mono ?_; rintro e w1 ⟨rfl, hb⟩; obtain ⟨hcc, hff⟩ := bcell hb) | (go_at_call 41; refine (ins_isIndex _ _).mono ?_; rintro e w' ⟨rfl, rfl⟩))
  all_goals
    have hb0 : Below w.heap.size w w1 := below_then ((Below.refl _ _).alloc (Nat.le_refl _) _) (by simp) hb
    have hC1 := Kd.C_below hC hb0
    clear hcc hff hb hC
    go_loop [4, 85] (fun g i => ∃ (j : Nat) (Y : Bool), j ≤ l.length ∧ g = .bool Y ∧ Y = (G && (l.take j).all Trp.isIndex) ∧ i = .int .i64 j) (fun _ i => l.length - (intOf i).toNat)
    case atStart => exact ⟨0, _, Nat.zero_le _, rfl, by rw [← HG.out]; simp [Trp.insGoodA, *], rfl⟩
    case round =>
      obtain ⟨j, Y, hj, rfl, hY, rfl⟩ := hrel
      have HY := Lib.hid hY
      clear hY
      by_cases hlt : j < l.length
      · obtain ⟨ad, rfl, hcell⟩ := Kd.at_int hC1 (j : Int) (by omega) (by omega)
        rw [Int.toNat_natCast] at hcell
        have HT := Lib.hid (take_all l j hlt)
        go_wp2_with (go_at_call 41; refine (ins_isIndex _ _).mono ?_; rintro e w' ⟨rfl, rfl⟩)
        all_goals
          go_round
          case rel => exact ⟨j + 1, _, by omega, rfl, by rw [HT.out, ← Bool.and_assoc, ← HY.out]; simp only [*, Bool.true_and, Bool.false_and], by go_num⟩
          case measure => simp [intOf]; omega
      · obtain rfl : j = l.length := by omega
        rw [List.take_length] at HY
        clear hlt hj
        go_wp2
        all_goals
          go_ret
          exact ⟨ret_int (by first | exact good_yes HY.out (by assumption) | exact good_no HY.out (by assumption)), hb0⟩

set_option maxHeartbeats 1000000 in
theorem ins_Check_7 (op a b : Int) (l : List Int) (A : Option Addr) (c : Nat) (w : World) (hk : Trp.besides op = 7) (hl : l.length ≤ c) (hC : (Kd.int .i64).C w A l.length l) (h16 : l.length ≤ 16) (h4 : l.length ≤ 0) (h6 : b = 0) :
    Calls Tryd.prog 26 #[.agg #[.int .u8 op, .int .i64 a, .int .i64 b, .slice A l.length c]] w fun e w' => e = .returned (.int .i64 (goodRes (Trp.insGoodA 7 a b && l.all Trp.isIndex))) ∧ Below w.heap.size w w' := by
  subst h6
  obtain ⟨G, hG⟩ : ∃ G, Trp.insGoodA 7 a 0 = G := ⟨_, rfl⟩
  rw [hG]
  have HG := Lib.hid hG
  clear hG
  have HK := Lib.hid hk
  clear hk
  go_enter Tryd.func26, Tryd.ntmps26
  go_wp2_with (first | (go_at_call 40; refine (besides_at HK.out _).mono ?_; rintro e w1 ⟨rfl, hb⟩; obtain ⟨hcc, hff⟩ := bcell hb) | (go_at_call 41; refine (ins_isIndex _ _).mono ?_; rintro e w' ⟨rfl, rfl⟩))
  all_goals
    have hb0 : Below w.heap.size w w1 := below_then ((Below.refl _ _).alloc (Nat.le_refl _) _) (by simp) hb
    have hC1 := Kd.C_below hC hb0
    clear hcc hff hb hC
    go_loop [4, 85] (fun g i => ∃ (j : Nat) (Y : Bool), j ≤ l.length ∧ g = .bool Y ∧ Y = (G && (l.take j).all Trp.isIndex) ∧ i = .int .i64 j) (fun _ i => l.length - (intOf i).toNat)
    case atStart => exact ⟨0, _, Nat.zero_le _, rfl, by rw [← HG.out]; simp [Trp.insGoodA]; rfl, rfl⟩
    case round =>
      obtain ⟨j, Y, hj, rfl, hY, rfl⟩ := hrel
      have HY := Lib.hid hY
      clear hY
      by_cases hlt : j < l.length
      · obtain ⟨ad, rfl, hcell⟩ := Kd.at_int hC1 (j : Int) (by omega) (by omega)
        rw [Int.toNat_natCast] at hcell
        have HT := Lib.hid (take_all l j hlt)
        go_wp2_with (go_at_call 41; refine (ins_isIndex _ _).mono ?_; rintro e w' ⟨rfl, rfl⟩)
        all_goals
          go_round
          case rel => exact ⟨j + 1, _, by omega, rfl, by rw [HT.out, ← Bool.and_assoc, ← HY.out]; simp only [*, Bool.true_and, Bool.false_and], by go_num⟩
          case measure => simp [intOf]; omega
      · obtain rfl : j = l.length := by omega
        rw [List.take_length] at HY
        clear hlt hj
        go_wp2
        all_goals
          go_ret
          exact ⟨ret_int (by first | exact good_yes HY.out (by assumption) | exact good_no HY.out (by assumption)), hb0⟩

set_option maxHeartbeats 1000000 in
theorem ins_Check_8 (op a b : Int) (l : List Int) (A : Option Addr) (c : Nat) (w : World) (hk : Trp.besides op = 8) (hl : l.length ≤ c) (hC : (Kd.int .i64).C w A l.length l) (h16 : l.length ≤ 16) (h4 : l.length ≤ 0) (h6 : b = 0) :
    Calls Tryd.prog 26 #[.agg #[.int .u8 op, .int .i64 a, .int .i64 b, .slice A l.length c]] w fun e w' => e = .returned (.int .i64 (goodRes (Trp.insGoodA 8 a b && l.all Trp.isIndex))) ∧ Below w.heap.size w w' := by
  subst h6
  obtain ⟨G, hG⟩ : ∃ G, Trp.insGoodA 8 a 0 = G := ⟨_, rfl⟩
  rw [hG]
  have HG := Lib.hid hG
  clear hG
  have HK := Lib.hid hk
  clear hk
  go_enter Tryd.func26, Tryd.ntmps26
  go_wp2_with (first | (go_at_call 40; refine (besides_at HK.out _).mono ?_; rintro e w1 ⟨rfl, hb⟩; obtain ⟨hcc, hff⟩ := bcell hb) | (go_at_call 41; refine (ins_isIndex _ _).mono ?_; rintro e w' ⟨rfl, rfl⟩))
  all_goals
    have hb0 : Below w.heap.size w w1 := below_then ((Below.refl _ _).alloc (Nat.le_refl _) _) (by simp) hb
    have hC1 := Kd.C_below hC hb0
    clear hcc hff hb hC
    go_loop [4, 85] (fun g i => ∃ (j : Nat) (Y : Bool), j ≤ l.length ∧ g = .bool Y ∧ Y = (G && (l.take j).all Trp.isIndex) ∧ i = .int .i64 j) (fun _ i => l.length - (intOf i).toNat)
    case atStart => exact ⟨0, _, Nat.zero_le _, rfl, by rw [← HG.out]; simp only [w6432, wrap32_self]; simp [Trp.insGoodA], rfl⟩
    case round =>
      obtain ⟨j, Y, hj, rfl, hY, rfl⟩ := hrel
      have HY := Lib.hid hY
      clear hY
      by_cases hlt : j < l.length
      · obtain ⟨ad, rfl, hcell⟩ := Kd.at_int hC1 (j : Int) (by omega) (by omega)
        rw [Int.toNat_natCast] at hcell
        have HT := Lib.hid (take_all l j hlt)
        go_wp2_with (go_at_call 41; refine (ins_isIndex _ _).mono ?_; rintro e w' ⟨rfl, rfl⟩)
        all_goals
          go_round
          case rel => exact ⟨j + 1, _, by omega, rfl, by rw [HT.out, ← Bool.and_assoc, ← HY.out]; simp only [*, Bool.true_and, Bool.false_and], by go_num⟩
          case measure => simp [intOf]; omega
      · obtain rfl : j = l.length := by omega
        rw [List.take_length] at HY
        clear hlt hj
        go_wp2
        all_goals
          go_ret
          exact ⟨ret_int (by first | exact good_yes HY.out (by assumption) | exact good_no HY.out (by assumption)), hb0⟩

set_option maxHeartbeats 1000000 in
theorem ins_Check_9 (op a b : Int) (l : List Int) (A : Option Addr) (c : Nat) (w : World) (hk : Trp.besides op = 9) (hl : l.length ≤ c) (hC : (Kd.int .i64).C w A l.length l) (h16 : l.length ≤ 16) (h4 : l.length ≤ 0) (h6 : b = 0) :
    Calls Tryd.prog 26 #[.agg #[.int .u8 op, .int .i64 a, .int .i64 b, .slice A l.length c]] w fun e w' => e = .returned (.int .i64 (goodRes (Trp.insGoodA 9 a b && l.all Trp.isIndex))) ∧ Below w.heap.size w w' := by
  subst h6
  obtain ⟨G, hG⟩ : ∃ G, Trp.insGoodA 9 a 0 = G := ⟨_, rfl⟩
  rw [hG]
  have HG := Lib.hid hG
  clear hG
  have HK := Lib.hid hk
  clear hk
  go_enter Tryd.func26, Tryd.ntmps26
  go_wp2_with (first | (go_at_call 40; refine (besides_at HK.out _).mono ?_; rintro e w1 ⟨rfl, hb⟩; obtain ⟨hcc, hff⟩ := bcell hb) | (go_at_call 41; refine (ins_isIndex _ _).mono ?_; rintro e w' ⟨rfl, rfl⟩))
  all_goals
    have hb0 : Below w.heap.size w w1 := below_then ((Below.refl _ _).alloc (Nat.le_refl _) _) (by simp) hb
    have hC1 := Kd.C_below hC hb0
    clear hcc hff hb hC
    go_loop [4, 85] (fun g i => ∃ (j : Nat) (Y : Bool), j ≤ l.length ∧ g = .bool Y ∧ Y = (G && (l.take j).all Trp.isIndex) ∧ i = .int .i64 j) (fun _ i => l.length - (intOf i).toNat)
    case atStart => exact ⟨0, _, Nat.zero_le _, rfl, by rw [← HG.out]; simp [Trp.insGoodA], rfl⟩
    case round =>
      obtain ⟨j, Y, hj, rfl, hY, rfl⟩ := hrel
      have HY := Lib.hid hY
      clear hY
      by_cases hlt : j < l.length
      · obtain ⟨ad, rfl, hcell⟩ := Kd.at_int hC1 (j : Int) (by omega) (by omega)
        rw [Int.toNat_natCast] at hcell
        have HT := Lib.hid (take_all l j hlt)
        go_wp2_with (go_at_call 41; refine (ins_isIndex _ _).mono ?_; rintro e w' ⟨rfl, rfl⟩)
        all_goals
          go_round
          case rel => exact ⟨j + 1, _, by omega, rfl, by rw [HT.out, ← Bool.and_assoc, ← HY.out]; simp only [*, Bool.true_and, Bool.false_and], by go_num⟩
          case measure => simp [intOf]; omega
      · obtain rfl : j = l.length := by omega
        rw [List.take_length] at HY
        clear hlt hj
        go_wp2
        all_goals
          go_ret
          exact ⟨ret_int (by first | exact good_yes HY.out (by assumption) | exact good_no HY.out (by assumption)), hb0⟩

theorem ret_cal {n : Nat} {P Q : Ending → World → Prop} {args : Array Value} {w : World} (h : Calls Tryd.prog n args w P) (hp : ∀ e w', P e w' → Q e w') : Calls Tryd.prog n args w Q := h.mono hp
/-- ins.Check -/
theorem ins_Check (x : Trp.Ins) (A : Option Addr) (c : Nat) (w : World) (hl : x.tos.length ≤ c) (hC : (Kd.int .i64).C w A x.tos.length x.tos) :
    Calls Tryd.prog 26 #[.agg #[.int .u8 x.op, .int .i64 x.a, .int .i64 x.b, .slice A x.tos.length c]] w fun e w' => e = .returned (.int .i64 (Trp.insCheck x)) ∧ Below w.heap.size w w' := by
  obtain ⟨op, a, b, l⟩ := x
  simp only at hl hC ⊢
  obtain ⟨K, hk⟩ : ∃ K, Trp.besides op = K := ⟨_, rfl⟩
  have hcases := hk ▸ besides_cases op
  by_cases hgo : K ≠ 0 ∧ l.length ≤ 16 ∧ (K ≠ 4 → l.length ≤ 0) ∧ (K ≠ 6 → b = 0)
  · obtain ⟨h0, h16, h4, h6⟩ := hgo
    have hr : Trp.insCheck ⟨op, a, b, l⟩ = goodRes (Trp.insGoodA K a b && l.all Trp.isIndex) := by
      unfold Trp.insCheck goodRes
      simp only [hk]
      rw [if_neg h0, if_neg (by omega), if_neg (by
        rintro (⟨h1, h2⟩ | ⟨h1, h2⟩)
        · exact absurd (h4 h1) (by omega)
        · exact h2 (h6 h1))]
    rw [hr]
    rcases hcases with rfl | rfl | rfl | rfl | rfl | rfl | rfl | rfl | rfl | rfl
    · exact absurd rfl h0
    · exact ins_Check_1 op a b l A c w hk hl hC h16 (h4 (by decide)) (h6 (by decide))
    · exact ins_Check_2 op a b l A c w hk hl hC h16 (h4 (by decide)) (h6 (by decide))
    · exact ins_Check_3 op a b l A c w hk hl hC h16 (h4 (by decide)) (h6 (by decide))
    · exact ins_Check_4 op a b l A c w hk hl hC h16 (h6 (by decide))
    · exact ins_Check_5 op a b l A c w hk hl hC h16 (h4 (by decide)) (h6 (by decide))
    · exact ins_Check_6 op a b l A c w hk hl hC h16 (h4 (by decide))
    · exact ins_Check_7 op a b l A c w hk hl hC h16 (h4 (by decide)) (h6 (by decide))
    · exact ins_Check_8 op a b l A c w hk hl hC h16 (h4 (by decide)) (h6 (by decide))
    · exact ins_Check_9 op a b l A c w hk hl hC h16 (h4 (by decide)) (h6 (by decide))
  · have hm := Kd.C_max hC
    obtain ⟨R, hR⟩ : ∃ R, Trp.insCheck ⟨op, a, b, l⟩ = R := ⟨_, rfl⟩
    rw [hR]
    have HR := Lib.hid hR
    have HK := Lib.hid hk
    clear hk hR
    have fin : ∀ r : Int, (K = 0 → r = 6) → (K ≠ 0 → 16 < l.length → r = 2) → (K ≠ 0 → l.length ≤ 16 → r = 1) → r = R := by
      intro r r1 r2 r3
      rw [← HR.out]
      unfold Trp.insCheck
      simp only [HK.out]
      by_cases c0 : K = 0
      · rw [if_pos c0]; exact r1 c0
      · by_cases c1 : 16 < l.length
        · rw [if_neg c0, if_pos c1]; exact r2 c0 c1
        · rw [if_neg c0, if_neg c1]
          refine (r3 c0 (by omega)).trans (if_pos ?_).symm
          by_cases c2 : K ≠ 4 → l.length ≤ 0
          · by_cases c3 : K ≠ 6 → b = 0
            · exact absurd ⟨c0, by omega, c2, c3⟩ hgo
            · exact .inr ⟨fun e => c3 (fun e' => absurd e e'), fun e => c3 (fun _ => e)⟩
          · exact .inl ⟨fun e => c2 (fun e' => absurd e e'), by
              rcases Nat.lt_or_ge 0 l.length with h | h
              · exact h
              · exact absurd (fun _ => h) c2⟩
    have hw : ∀ w1 : World, Below (w.alloc (.cells #[.int .u8 op, .int .i64 a, .int .i64 b, .slice A l.length c] 45)).heap.size (w.alloc (.cells #[.int .u8 op, .int .i64 a, .int .i64 b, .slice A l.length c] 45)) w1 → Below w.heap.size w w1 :=
      fun w1 hb => below_then ((Below.refl _ _).alloc (Nat.le_refl _) _) (by simp) hb
    have HW := Lib.hid hw
    have HF := Lib.hid fin
    clear hw fin
    by_cases h0 : K = 0
    · subst h0
      clear hgo
      go_enter Tryd.func26, Tryd.ntmps26
      go_wp2_with (go_at_call 40; refine (besides_at HK.out _).mono ?_; rintro e w1 ⟨rfl, hb⟩; obtain ⟨hcc, hff⟩ := bcell hb)
      go_ret
      exact ⟨ret_int (HF.out _ (fun _ => rfl) (fun h => absurd rfl h) (fun h => absurd rfl h)), HW.out _ hb⟩
    have k0 : (K == 0) = false := by simpa using h0
    by_cases h16 : 16 < l.length
    · clear hgo
      have H0 := Lib.hid h0
      clear h0
      go_enter Tryd.func26, Tryd.ntmps26
      go_wp2_with (go_at_call 40; refine (besides_at HK.out _).mono ?_; rintro e w1 ⟨rfl, hb⟩; obtain ⟨hcc, hff⟩ := bcell hb)
      go_ret
      exact ⟨ret_int (HF.out _ (fun h => absurd h H0.out) (fun _ _ => rfl) (fun _ h => absurd h16 (by omega))), HW.out _ hb⟩
    have HR1 : ∀ w1 : World, Below (w.alloc (.cells #[.int .u8 op, .int .i64 a, .int .i64 b, .slice A l.length c] 45)).heap.size (w.alloc (.cells #[.int .u8 op, .int .i64 a, .int .i64 b, .slice A l.length c] 45)) w1 →
        Ending.returned (.int .i64 1) = .returned (.int .i64 R) ∧ Below w.heap.size w w1 := fun w1 hb => ⟨ret_int (HF.out _ (fun h => absurd h h0) (fun _ h => absurd h h16) (fun _ _ => rfl)), HW.out _ hb⟩
    have HR2 := Lib.hid HR1
    clear HR1
    have h16' : l.length ≤ 16 := by omega
    clear h16
    by_cases h4 : K = 4
    · have hb0 : (b != 0) = true := by
        rw [bne_iff_ne]
        intro e
        exact hgo ⟨h0, h16', fun h => absurd h4 h, fun _ => e⟩
      subst h4
      clear hgo h0 k0 hcases
      go_enter Tryd.func26, Tryd.ntmps26
      go_wp2_with (go_at_call 40; refine (besides_at HK.out _).mono ?_; rintro e w1 ⟨rfl, hb⟩; obtain ⟨hcc, hff⟩ := bcell hb)
      go_ret
      exact HR2.out _ hb
    have k4 : (K != 4) = true := by rw [bne_iff_ne]; exact h4
    by_cases hp : 0 < l.length
    · clear hgo h0 h4 hcases
      go_enter Tryd.func26, Tryd.ntmps26
      go_wp2_with (go_at_call 40; refine (besides_at HK.out _).mono ?_; rintro e w1 ⟨rfl, hb⟩; obtain ⟨hcc, hff⟩ := bcell hb)
      go_ret
      exact HR2.out _ hb
    · have k6 : (K != 6) = true := by
        rw [bne_iff_ne]
        intro e
        exact hgo ⟨h0, h16', fun _ => by omega, fun h => absurd e h⟩
      have hb0 : (b != 0) = true := by
        rw [bne_iff_ne]
        intro e
        exact hgo ⟨h0, h16', fun _ => by omega, fun _ => e⟩
      clear hgo h0 h4 hcases
      go_enter Tryd.func26, Tryd.ntmps26
      go_wp2_with (go_at_call 40; refine (besides_at HK.out _).mono ?_; rintro e w1 ⟨rfl, hb⟩; obtain ⟨hcc, hff⟩ := bcell hb)
      go_ret
      exact HR2.out _ hb
end Go.Proofs.YteaphfmgcpanmaaDoor
