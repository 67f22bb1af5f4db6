/- The row and the card of AsmSays: for every number and every list of instructions, package asm answers as the reference does; the list reads behind the call as it read before. -/
import Derived.Test.YteaphfmgcpanmaaDoorZaf
import Derived.Lib.ItoaLen
import Derived.Lib.Join
import Derived.Deep.Slices
import Derived.Deep.Fields
import Derived.ChangeSame
import Derived.ProofKit
import Derived.Test.YteaphfmgcpanmaaDoorCards
import Derived.Test.YteaphfmgcpanmaaDoorTie
import Derived.WalkKit
import Derived.OpenShut
import Derived.Below
import Derived.Deep.DeepHandedRow
import Derived.Lib.LaidTab
import Derived.Lib.LaidU8
import Derived.Lay
import Derived.MakeChecks
import Derived.Shelf.Vars

set_option linter.unusedVariables false
set_option linter.unusedSimpArgs false
namespace Trp
open Go Go.Lib

theorem join_rest (nm : List UInt8) (l : List (List UInt8)) : Lib.join (nm :: l) [32] = nm ++ asmRest l := by
  unfold Lib.join asmRest
  induction l generalizing nm with
  | nil => simp [List.intercalate]
  | cons a l ih =>
    rw [List.flatMap_cons]
    have h := ih a
    simp only [List.intercalate, List.intersperse, List.flatten_cons] at h ⊢
    rw [h]
    simp
theorem name_len : ∀ n : Fin 256, (nameOf (n.val : Int)).length ≤ 30 := by decide +kernel
theorem name_len' (op : Int) (h0 : 0 ≤ op) (h1 : op ≤ 255) : (nameOf op).length ≤ 30 := by
  have := name_len ⟨op.toNat, by omega⟩
  simpa [Int.toNat_of_nonneg h0] using this
theorem itoa_le (n : Int) (h0 : -9223372036854775808 ≤ n) (h1 : n ≤ 9223372036854775807) : (Lib.itoa n).length ≤ 21 := Lib.itoa_length_le n h0 h1
theorem rest_len (l : List (List UInt8)) (h : ∀ a ∈ l, a.length ≤ 21) : (asmRest l).length ≤ 22 * l.length := by
  unfold asmRest
  induction l with
  | nil => simp
  | cons a l ih =>
    have h1 := h a List.mem_cons_self
    have h2 := ih fun b hb => h b (List.mem_cons_of_mem _ hb)
    rw [List.flatMap_cons, List.length_append, List.length_cons, List.length_cons]
    omega
theorem run_all (l : List Ins) : ∀ (w : Wk) (i : Int), nestRun l w i = 0 → ∀ x ∈ l, insCheck x = 0 := by
  induction l with
  | nil => intro w i _ x hx; exact absurd hx (by simp)
  | cons a l ih =>
    intro w i h x hx
    rw [nestRun] at h
    by_cases c : insCheck a ≠ 0
    · rw [if_pos c] at h; exact absurd h c
    rw [if_neg c] at h
    by_cases c2 : (w.next a.op i).2.2 ≠ 0
    · rw [if_pos c2] at h; exact absurd h c2
    rw [if_neg c2] at h
    rcases List.mem_cons.1 hx with rfl | hx
    · simpa using c
    · exact ih _ _ h x hx
theorem check_all {l : List Ins} (h : nestCheck l = 0) : l.length ≤ 200 ∧ ∀ x ∈ l, insCheck x = 0 := by
  unfold nestCheck at h
  by_cases c : 200 < l.length
  · rw [if_pos c] at h; omega
  · rw [if_neg c] at h; exact ⟨by omega, run_all l _ _ h⟩
theorem tos_le {x : Ins} (h : insCheck x = 0) : x.tos.length ≤ 16 := by
  unfold insCheck at h
  by_cases c0 : besides x.op = 0
  · rw [if_pos c0] at h; omega
  rw [if_neg c0] at h
  by_cases c1 : 16 < x.tos.length
  · rw [if_pos c1] at h; omega
  · omega
def aI64 (n : Int) : Prop := -9223372036854775808 ≤ n ∧ n ≤ 9223372036854775807
theorem args_len {x : Ins} (ha : aI64 x.a) (hb : aI64 x.b) (ht : ∀ n ∈ x.tos, aI64 n) (hl : x.tos.length ≤ 16) : (asmArgs x).length ≤ 17 ∧ ∀ s ∈ asmArgs x, s.length ≤ 21 := by
  unfold asmArgs
  have ia := itoa_le x.a ha.1 ha.2
  have ib := itoa_le x.b hb.1 hb.2
  repeat' split
  all_goals
    refine ⟨by simp; try omega, fun s hs => ?_⟩
    try simp only [List.mem_map, List.mem_append, List.mem_singleton, List.mem_cons, List.not_mem_nil, or_false] at hs
  · subst hs; decide
  · subst hs; decide
  · obtain ⟨n, hn | rfl, rfl⟩ := hs
    · exact itoa_le n (ht n hn).1 (ht n hn).2
    · exact ia
  · rcases hs with rfl | rfl
    · exact ia
    · exact ib
  · subst hs; exact ia
theorem line_len {x : Ins} (h0 : 0 ≤ x.op) (h1 : x.op ≤ 255) (ha : aI64 x.a) (hb : aI64 x.b) (ht : ∀ n ∈ x.tos, aI64 n) (hl : x.tos.length ≤ 16) : (asmLine x).length ≤ 450 := by
  obtain ⟨a1, a2⟩ := args_len ha hb ht hl
  have h := rest_len _ a2
  have hn := name_len' x.op h0 h1
  unfold asmLine
  rw [List.length_append, List.length_append, List.length_singleton]
  omega
theorem text_len (l : List Ins) (h : ∀ x ∈ l, (asmLine x).length ≤ 450) : (asmText l).length ≤ 450 * l.length := by
  unfold asmText
  induction l with
  | nil => simp
  | cons a l ih =>
    have h1 := h a List.mem_cons_self
    have h2 := ih fun b hb => h b (List.mem_cons_of_mem _ hb)
    rw [List.flatMap_cons, List.length_append, List.length_cons]
    omega
def wErr (l : List Ins) : Int := if nestCheck l ≠ 0 then nestCheck l else if 6000 < (asmText l).length then 2 else 0
def wText (l : List Ins) : List UInt8 := if wErr l ≠ 0 then [] else asmText l
end Trp

namespace Go.Proofs.YteaphfmgcpanmaaDoor
set_option linter.unusedVariables false
set_option linter.unusedSimpArgs false
open Go.RowKit Go.Proofs.YteaphfmgcpanmaaDoorW.PrintWords

theorem builder_below {T e : TypeId} {B b : Nat} {bs : List Value} {w w' : World} (h : Lib.IsBuilder T e B b bs w) (hb : Below w.heap.size w w') : Lib.IsBuilder T e B b bs w' := by
  rcases h with ⟨h1, v, h2, h3, h4⟩ | ⟨h1, v, h2, h3, h4⟩
  · exact .inl ⟨h1, v, (hb.block b (blk_lt h2)).trans h2, own_move h3 (fun k hk => hb.block k (own_lt h3 k hk)), h4⟩
  · exact .inr ⟨h1, v, (hb.block b (blk_lt h2)).trans h2, own_move h3 (fun k hk => hb.block k (own_lt h3 k hk)), h4⟩
theorem words_join (x : Trp.Ins) : Lib.join ((wordsOf x).map (·.data.toList)) [32] ++ [10] = Trp.asmLine x := by
  unfold wordsOf
  rw [List.map_cons, List.map_map, Trp.join_rest]
  have : (Trp.asmArgs x).map ((fun s : ByteArray => s.data.toList) ∘ bstr) = Trp.asmArgs x := by
    rw [List.map_congr_left (g := id)]
    · simp
    · intro a _; rfl
  rw [this]
  rfl
theorem text_snoc (l : List Trp.Ins) (j : Nat) (h : j < l.length) : Trp.asmText (l.take (j + 1)) = Trp.asmText (l.take j) ++ Trp.asmLine (l.getD j Trp.zIns) := by
  unfold Trp.asmText
  rw [List.take_succ_eq_append_getElem h, List.flatMap_append]
  simp [List.getD_eq_getElem?_getD, h]
def WritePost (l : List Trp.Ins) (w : World) (e : Ending) (w' : World) : Prop :=
  e = .returned (.tuple #[.string (bstr (Trp.wText l)), .int .i64 (Trp.wErr l)]) ∧ Below w.heap.size w w'
theorem WritePost.mk {l : List Trp.Ins} {w w' : World} {s : ByteArray} {e : Int} (h1 : bstr (Trp.wText l) = s) (h2 : Trp.wErr l = e) (hb : Below w.heap.size w w') : WritePost l w (.returned (.tuple #[.string s, .int .i64 e])) w' := by
  subst h1; subst h2; exact ⟨rfl, hb⟩
theorem XIn.len {x : Trp.Ins} (h : XIn x) (ht : x.tos.length ≤ 16) : (Trp.asmLine x).length ≤ 450 := Trp.line_len h.op0 h.op1 h.a h.b h.tos ht

theorem own_cells {w : World} {base : Nat} {v : Value} {xs : List ByteArray} (h : w.ownsRow base 9 1 v xs.length (xs.map Value.string)) (h0 : 0 < xs.length) :
    ∃ g cap, v = .slice (some ⟨g, 0, none⟩) xs.length cap ∧ (∀ (j : Nat) x, xs[j]? = some x → w.cell? ⟨g, 0 + j, none⟩ = some (.string x)) ∧ g < w.heap.size ∧ xs.length ≤ cap := by
  have hc := @World.ownsRow.cells
  rcases h.2 with ⟨rfl, _⟩ | ⟨g, cap, cur, rfl, hbg, hg, hnc, r⟩
  · exfalso
    have := h.2
    rcases this with ⟨_, h3⟩ | ⟨g, cap, cur, h4, _⟩
    · simp at h3; rw [h3] at h0; simp at h0
    · cases h4
  · refine ⟨g, cap, rfl, fun j x hj => ?_, blk_lt hg, hnc⟩
    have := h.cells (g := g) rfl j (.string x) (by simp [hj])
    rw [Nat.zero_add]
    unfold Addr.add at this
    by_cases hz : j = 0
    · subst hz; simpa using this
    · simpa [hz] using this
theorem cells_len (t js : List UInt8) : (Lib.byteCells t ++ Lib.strCells ⟨js.toArray⟩).length = t.length + js.length := by simp [Lib.byteCells, Lib.strCells]
theorem bytes_line (t : List UInt8) (x : Trp.Ins) (ws : List ByteArray) (h : wordsOf x = ws) : Lib.byteCells t ++ Lib.strCells (bstr (Lib.join (ws.map (·.data.toList)) [32])) ++ [Value.int .u8 10] = Lib.byteCells (t ++ Trp.asmLine x) := by
  rw [← words_join, h]
  simp [Lib.byteCells, Lib.strCells, bstr]
theorem join_len (x : Trp.Ins) (ws : List ByteArray) (h : wordsOf x = ws) : (Lib.join (ws.map (·.data.toList)) [32]).length ≤ (Trp.asmLine x).length := by
  rw [← words_join, h]; simp

set_option maxHeartbeats 4000000 in
set_option maxRecDepth 100000 in
theorem asm_Write (l : List Trp.Ins) (hX : ∀ x ∈ l, XIn x) (A : Option Addr) (c : Nat) (w : World) (hl : l.length ≤ c) (hC : kIns.C w A l.length l) (hL : Lb w) :
    Calls Tryd.prog 6 #[.slice A l.length c] w (WritePost l w) := by
  have hm := Kd.C_max hC
  have cN := nest_Check l A c w hl hC
  obtain ⟨R, hR⟩ : ∃ R, Trp.nestCheck l = R := ⟨_, rfl⟩
  rw [hR] at cN
  have CN := Aside0.mk cN
  have HR := Aside0.mk hR
  have HC := Aside0.mk hC
  have HL := Aside0.mk hL
  have HX := Aside0.mk hX
  clear cN hR hC hL hX
  by_cases hr : R = 0
  · subst hr
    have HAll := Aside0.mk (Trp.check_all HR.out)
    have h200 := HAll.out.1
    go_enter Tryd.func6, Tryd.ntmps6
    go_wp2_with (go_at_call 12; refine CN.out.mono ?_; rintro e w1 ⟨rfl, hb⟩; have HB1 := Aside0.mk hb; clear hb)
    obtain ⟨W2, hW2⟩ : ∃ W2, w1.alloc (.cells #[.pointer none, .slice none 0 0] 42) = W2 := ⟨_, rfl⟩
    have hbd : Lib.IsBuilder 42 5 w1.heap.size w1.heap.size [] W2 :=
      .inl ⟨Nat.le_refl _, _, hW2 ▸ blk_new w1 _, World.ownsRow_nil _ _ _ _, by simp [Value.ownBlock]⟩
    have hbw : Below w.heap.size w W2 := below_then HB1.out HB1.out.size (hW2 ▸ (Below.refl _ _).alloc (Nat.le_refl _) _)
    have hz2 : W2.heap.size = w1.heap.size + 1 := by rw [← hW2]; simp
    have hzB := HB1.out.size
    simp only [hW2]
    obtain ⟨B, hB⟩ : ∃ B, w1.heap.size = B := ⟨_, rfl⟩
    simp only [hB] at hbd hz2 hzB ⊢
    have HBd := Aside0.mk hbd
    have HBW := Aside0.mk hbw
    have hsz : B + 1 ≤ W2.heap.size := by omega
    clear hW2 hbd hbw hz2 hB
    go_loopw [15] (fun v15 wr => ∃ j : Nat, j ≤ l.length ∧ v15 = .int .i64 j ∧ Aside0 (Lib.IsBuilder 42 5 B B (Lib.byteCells (Trp.asmText (l.take j))) wr) ∧ Aside0 (Below B W2 wr)) (fun v15 _ => l.length - (intOf v15).toNat)
    case atStart => exact ⟨0, Nat.zero_le _, rfl, ⟨HBd.out⟩, ⟨Below.refl _ _⟩⟩
    case round =>
      obtain ⟨j, hj, rfl, HBr, HKr⟩ := hrel
      have hszr := HKr.out.size
      have HWr : Aside0 (Below w.heap.size w wr) := ⟨HBW.out.trans (HKr.out.mono hzB)⟩
      have htl : (Trp.asmText (l.take j)).length ≤ 450 * j := by
        have := Trp.text_len (l.take j) (fun x hx => (HX.out x (List.mem_of_mem_take hx)).len (Trp.tos_le (HAll.out.2 x (List.mem_of_mem_take hx))))
        rw [List.length_take, Nat.min_eq_left hj] at this
        exact this
      obtain ⟨t, htx⟩ : ∃ t, Trp.asmText (l.take j) = t := ⟨_, rfl⟩
      rw [htx] at HBr htl
      have HT := Aside0.mk htx
      clear htx
      by_cases hlt : j < l.length
      · obtain ⟨ad, A3, c3, hA, e0, e1, e2, e3, hl3, hC3⟩ := at_TIns (Kd.C_below HC.out HWr.out) (j : Int) (by omega) (by omega)
        obtain ⟨x, hx⟩ : ∃ x, rd_TIns l (j : Int) = x := ⟨_, rfl⟩
        simp only [hx, Int.toNat_natCast] at e0 e1 e2 e3 hl3 hC3
        rw [rdIns_eq] at hx
        have hmem : x ∈ l := by rw [← hx, List.getD_eq_getElem?_getD, List.getElem?_eq_getElem hlt]; exact List.getElem_mem hlt
        have HXx := Aside0.mk (HX.out x hmem)
        have htos := Trp.tos_le (HAll.out.2 x hmem)
        have HXe := Aside0.mk hx
        have HC3 := Aside0.mk hC3
        have HLr := Aside0.mk ((HL.out.below HWr.out).below ((Below.refl _ _).alloc (Nat.le_refl _) (.cells #[.int .u8 x.op, .int .i64 x.a, .int .i64 x.b, .slice A3 x.tos.length c3] 45)))
        have hll := HXx.out.len htos
        obtain ⟨ws, hws⟩ : ∃ ws, wordsOf x = ws := ⟨_, rfl⟩
        have hjl := join_len x ws hws
        have hw0 : 0 < ws.length := by rw [← hws]; simp [wordsOf]
        have hwn : ws.length ≤ 18 := by
          have := (Trp.args_len HXx.out.a HXx.out.b HXx.out.tos htos).1
          rw [← hws]; simp [wordsOf]; omega
        have HWs := Aside0.mk hws
        subst hA
        obtain ⟨js, hjs⟩ : ∃ js, Lib.join (ws.map (·.data.toList)) [32] = js := ⟨_, rfl⟩
        have HJs := Aside0.mk hjs
        rw [hjs] at hjl
        clear hx hC3 hws hmem hjs
        go_wp2_with (first
          | (go_at_call 15; refine (asm_words x HXx.out htos A3 c3 _ hl3 (Kd.C_alloc HC3.out _) HLr.out).mono ?_; rintro e w2 ⟨v, rfl, hown, hb2⟩; rw [HWs.out] at hown; obtain ⟨gv, kv, rfl, hcs, hgv, hkv⟩ := own_cells hown hw0; have HCs := Aside0.mk hcs; have HD2 := Aside0.mk (builder_below (builder_below HBr.out ((Below.refl _ _).alloc (Nat.le_refl _) _)) hb2); have hz2 := hb2.size; have HB2 : Aside0 (Below wr.heap.size wr w2) := ⟨below_then ((Below.refl _ _).alloc (Nat.le_refl _) _) (by simp) hb2⟩; clear hown hcs hb2; simp at hz2)
          | (go_at_call 14; refine (Tryd.strings_Join gv 0 kv ws ⟨#[32]⟩ w2 HCs.out hgv (by omega) hkv (by show (Lib.join (ws.map (·.data.toList)) [32]).length ≤ _; rw [HJs.out]; omega)).mono ?_; rintro e w3 ⟨rfl, hb3⟩; rw [show Lib.join (ws.map (·.data.toList)) (⟨#[32]⟩ : ByteArray).data.toList = js from HJs.out]; have HD3 := Aside0.mk (builder_below HD2.out hb3); have hz3 := hb3.size; have HB3 := Aside0.mk (below_then HB2.out HB2.out.size hb3); clear hb3)
          | (go_at_call 13; refine (Tryd.Builder_WriteString B B _ ⟨js.toArray⟩ w3 HD3.out (by have := cells_len t js; rw [List.length_append, Lib.strCells_length] at this; omega) (by omega)).mono ?_; rintro e w4 ⟨rfl, hd4, hb4⟩; have HD4 := Aside0.mk hd4; have HB4 := Aside0.mk hb4; have hz4 := hb4.size; clear hd4 hb4)
          | (go_at_call 16; refine (Tryd.Builder_WriteByte B B _ 10 w4 (.inr HD4.out) (by have := cells_len t js; omega) (by omega)).mono ?_; rintro e w5 ⟨rfl, hd5, hb5⟩; have HD5 := Aside0.mk hd5; have HB5 := Aside0.mk hb5; clear hd5 hb5))
        go_roundw
        case rel =>
          have hd := HD5.out
          rw [← HJs.out, show (⟨(Lib.join (ws.map (·.data.toList)) [32]).toArray⟩ : ByteArray) = bstr (Lib.join (ws.map (·.data.toList)) [32]) from rfl, bytes_line t x ws HWs.out] at hd
          exact ⟨j + 1, by omega, by go_num, ⟨by rw [text_snoc l j hlt, HT.out, HXe.out]; exact .inr hd⟩, ⟨((HKr.out.trans (HB3.out.mono (by omega))).trans HB4.out).trans HB5.out⟩⟩
        case measure => simp [intOf]; omega
      · obtain rfl : j = l.length := by omega
        rw [List.take_length] at HT
        have HWe : Aside0 (Trp.wErr l = if 6000 < t.length then 2 else 0) := ⟨by unfold Trp.wErr; rw [HR.out, if_neg (by decide), HT.out]⟩
        have hbl : (Lib.byteCells t).length = t.length := by simp [Lib.byteCells]
        by_cases h6 : 6000 < t.length
        · have h6' : (6000 : Int) < (t.length : Int) := by omega
          have HE : Aside0 (Trp.wErr l = 2) := ⟨by rw [HWe.out, if_pos h6]⟩
          clear h6
          go_wp2_with (go_at_call 17; refine (Tryd.Builder_Len B B _ _ HBr.out).mono ?_; rintro e w' ⟨rfl, rfl⟩; rw [hbl])
          go_ret2
          exact WritePost.mk (by unfold Trp.wText; rw [HE.out, if_pos (by decide)]; rfl) HE.out HWr.out
        · have h6' : ¬ (6000 : Int) < (t.length : Int) := by omega
          have HE : Aside0 (Trp.wErr l = 0) := ⟨by rw [HWe.out, if_neg h6]⟩
          clear h6
          go_wp2_with (first
            | (go_at_call 17; refine (Tryd.Builder_Len B B _ _ HBr.out).mono ?_; rintro e w' ⟨rfl, rfl⟩; rw [hbl])
            | (go_at_call 18; refine (Tryd.Builder_String_any B B t _ HBr.out (by omega)).mono ?_; rintro e w3 ⟨rfl, hb3⟩; have HB3 := Aside0.mk hb3; clear hb3))
          go_ret2
          exact WritePost.mk (by unfold Trp.wText; rw [HE.out, if_neg (by decide), HT.out]; rfl) HE.out (HWr.out.trans (HB3.out.mono hzB))
  · have hr2 : (R != 0) = true := by simpa using hr
    have HN := Aside0.mk hr
    clear hr
    go_enter Tryd.func6, Tryd.ntmps6
    go_wp2_with (go_at_call 12; refine CN.out.mono ?_; rintro e w1 ⟨rfl, hb⟩)
    go_ret2
    have he : Trp.wErr l = R := by unfold Trp.wErr; rw [HR.out, if_pos HN.out]
    exact WritePost.mk (by unfold Trp.wText; rw [he, if_pos HN.out]; rfl) he hb
end Go.Proofs.YteaphfmgcpanmaaDoor

namespace Go.Proofs.YteaphfmgcpanmaaDoor
set_option linter.unusedVariables false
set_option linter.unusedSimpArgs false
open Go.RowKit Go.Proofs.YteaphfmgcpanmaaDoorW.PrintWords

def CopyPost (l : List Int) (w : World) (e : Ending) (w' : World) : Prop := ∃ A c, e = .returned (.slice A l.length c) ∧ w'.ownsRow w.heap.size 2 1 (.slice A l.length c) l.length (l.map (Value.int .i64)) ∧ Below w.heap.size w w'
theorem ref_Copy64 (l : List Int) (A : Option Addr) (c : Nat) (w : World) (hn : l.length ≤ 1000) (hC : (Kd.int .i64).C w A l.length l) :
    Calls Tryd.prog 21 #[.slice A l.length c] w (CopyPost l w) := by
  have HC := Aside0.mk hC
  clear hC
  go_enter Tryd.func21, Tryd.ntmps21
  go_wp2_with (at_builtin; refine Kd.R_append_row (w0 := w) (Value.int .i64) (0 : Int) (h1 := fun _ => rfl) w.heap.size rfl _ (.tmp 3) 43 2 (.int .i64 0) 8 rfl Tryd.underlying43 infoL64 rfl (by decide) (.slice none 0 0) [] l A l.length c (fun _ => True) rfl rfl (fun _ _ => trivial) (Kd.R_nil _ _ _ _ _) HC.out (Below.refl _ _) (Nat.le_refl _) (by simp; omega) ?_; intro v1 w1 hR hb hg hat; have HR := Aside0.mk hR; have HB := Aside0.mk hb; obtain ⟨A1, c1, rfl⟩ := Kd.R_slice hR; clear hR hb hg hat)
  go_ret
  exact ⟨A1, c1, rfl, by simpa [encs] using Kd.own_of_R HR.out, HB.out⟩

/-- the tests of AsmWrite's switch -/
structure FormTests (s : ByteArray) (k : Int) : Prop where
  tk : (s.toList == [107]) = decide (k = 2)
  tt : (s.toList == [116]) = decide (k = 4)
  tab : (s.toList == [97, 98]) = decide (k = 6)
  ta : (s.toList == [97]) = decide (k = 3)
  taz : (s.toList == [97, 122]) = decide (k = 5)
  tc : (s.toList == [99]) = decide (k = 8)
  td : (s.toList == [100]) = decide (k = 9)
theorem formTests (k : Int) (h0 : 0 ≤ k) (h9 : k ≤ 9) : FormTests (Trp.form k) k := by
  obtain rfl | rfl | rfl | rfl | rfl | rfl | rfl | rfl | rfl | rfl : k = 0 ∨ k = 1 ∨ k = 2 ∨ k = 3 ∨ k = 4 ∨ k = 5 ∨ k = 6 ∨ k = 7 ∨ k = 8 ∨ k = 9 := by omega
  all_goals
    exact ⟨by rw [ByteArray.toList_eq]; decide +kernel, by rw [ByteArray.toList_eq]; decide +kernel, by rw [ByteArray.toList_eq]; decide +kernel, by rw [ByteArray.toList_eq]; decide +kernel, by rw [ByteArray.toList_eq]; decide +kernel, by rw [ByteArray.toList_eq]; decide +kernel, by rw [ByteArray.toList_eq]; decide +kernel⟩
/-- the numbers behind an instruction, by what stands beside it -/
theorem args_form (x : Trp.Ins) (h0 : 0 ≤ x.op) (h1 : x.op ≤ 255) (hb : Trp.besides x.op ≠ 0) :
    Trp.asmArgs x = if Trp.besides x.op = 2 then (if x.a = 127 then [[105, 51, 50]] else if x.a = 126 then [[105, 54, 52]] else [])
      else if Trp.besides x.op = 4 then (x.tos ++ [x.a]).map Lib.itoa
      else if Trp.besides x.op = 6 then [Lib.itoa x.a, Lib.itoa x.b]
      else if Trp.besides x.op = 3 ∨ Trp.besides x.op = 5 ∨ Trp.besides x.op = 8 ∨ Trp.besides x.op = 9 then [Lib.itoa x.a] else [] := by
  have key : ∀ n : Fin 256, Trp.besides (n.val : Int) ≠ 0 → (decide (2 ≤ (n.val : Int) ∧ (n.val : Int) ≤ 4) = decide (Trp.besides (n.val : Int) = 2)) ∧ (decide ((n.val : Int) = 14) = decide (Trp.besides (n.val : Int) = 4)) ∧ (decide (0 < Trp.width (n.val : Int)) = decide (Trp.besides (n.val : Int) = 6)) ∧
      (decide ((n.val : Int) = 12 ∨ (n.val : Int) = 13 ∨ (n.val : Int) = 16 ∨ (n.val : Int) = 17 ∨ (32 ≤ (n.val : Int) ∧ (n.val : Int) ≤ 36) ∨ (n.val : Int) = 65 ∨ (n.val : Int) = 66) = decide (Trp.besides (n.val : Int) = 3 ∨ Trp.besides (n.val : Int) = 5 ∨ Trp.besides (n.val : Int) = 8 ∨ Trp.besides (n.val : Int) = 9)) := by decide +kernel
  have hk := key ⟨x.op.toNat, by omega⟩
  simp only [Int.toNat_of_nonneg h0, decide_eq_decide] at hk
  obtain ⟨k1, k2, k3, k4⟩ := hk hb
  unfold Trp.asmArgs
  simp only [k1, k2, k3, k4]
theorem form_eq (op : Int) (h0 : 0 ≤ op) (h1 : op ≤ 255) : Trp.rBeside op = Trp.form (Trp.besides op) ∧ 0 ≤ Trp.besides op ∧ Trp.besides op ≤ 9 := Trp.form_of op h0 h1
theorem bes_ok {x : Trp.Ins} (h : Trp.insCheck x = 0) : Trp.besides x.op ≠ 0 := by
  intro c0
  unfold Trp.insCheck at h
  rw [if_pos c0] at h
  omega
theorem kind_a {x : Trp.Ins} (h : Trp.insCheck x = 0) (hb : Trp.besides x.op = 2) : x.a = 64 ∨ x.a = 127 ∨ x.a = 126 := by
  unfold Trp.insCheck at h
  rw [if_neg (by omega)] at h
  by_cases c1 : 16 < x.tos.length
  · rw [if_pos c1] at h; omega
  rw [if_neg c1] at h
  by_cases c2 : (Trp.besides x.op ≠ 4 ∧ 0 < x.tos.length) ∨ (Trp.besides x.op ≠ 6 ∧ x.b ≠ 0)
  · rw [if_pos c2] at h; omega
  rw [if_neg c2, hb] at h
  by_cases c3 : (Trp.insGoodA 2 x.a x.b && x.tos.all Trp.isIndex) = true
  · simp [Trp.insGoodA] at c3; exact c3.1
  · rw [if_neg c3] at h; omega

theorem own_ints {w : World} {base n c : Nat} {A : Option Addr} {xs : List Int} (h : w.ownsRow base 2 1 (.slice A n c) n (xs.map (Value.int .i64))) (h0 : 0 < n) :
    ∃ g, A = some ⟨g, 0, none⟩ ∧ g < w.heap.size ∧ (∀ j, j < n → w.cell? ⟨g, j, none⟩ = some (.int .i64 (xs.getD j 0))) ∧ n ≤ c := by
  have hn : xs.length = n := by have := h.1; simpa using this
  rcases h.2 with ⟨h3, _⟩ | ⟨g, cap, cur, h4, hbg, hg, hnc, r⟩
  · injection h3 with h5 h6 h7; omega
  · injection h4 with h5 h6 h7
    subst h5; subst h7
    refine ⟨g, rfl, blk_lt hg, fun j hj => ?_, hnc⟩
    have := h.cells (g := g) rfl j (.int .i64 (xs.getD j 0)) (by simp [List.getD_eq_getElem?_getD, hn, hj])
    unfold Addr.add at this
    by_cases hz : j = 0
    · subst hz; simpa using this
    · simpa [hz] using this
theorem rest_append (a b : List (List UInt8)) : Trp.asmRest (a ++ b) = Trp.asmRest a ++ Trp.asmRest b := by unfold Trp.asmRest; rw [List.flatMap_append]
theorem idx64 (w : World) : (Instr.index 56 (.agg ((Tryd.zeroCells56.setIfInBounds 126 (.string ⟨#[32, 105, 54, 52]⟩)).setIfInBounds 127 (.string ⟨#[32, 105, 51, 50]⟩))) (.int .i64 64)).run Tryd.prog w = .ok (.string ⟨#[]⟩) w := by kernel_rfl
theorem idx127 (w : World) : (Instr.index 56 (.agg ((Tryd.zeroCells56.setIfInBounds 126 (.string ⟨#[32, 105, 54, 52]⟩)).setIfInBounds 127 (.string ⟨#[32, 105, 51, 50]⟩))) (.int .i64 127)).run Tryd.prog w = .ok (.string ⟨#[32, 105, 51, 50]⟩) w := by kernel_rfl
theorem idx126 (w : World) : (Instr.index 56 (.agg ((Tryd.zeroCells56.setIfInBounds 126 (.string ⟨#[32, 105, 54, 52]⟩)).setIfInBounds 127 (.string ⟨#[32, 105, 51, 50]⟩))) (.int .i64 126)).run Tryd.prog w = .ok (.string ⟨#[32, 105, 54, 52]⟩) w := by kernel_rfl

set_option maxHeartbeats 8000000 in
set_option maxRecDepth 100000 in
theorem ref_AsmWrite (l : List Trp.Ins) (hX : ∀ x ∈ l, XIn x) (A : Option Addr) (c : Nat) (w : World) (hl : l.length ≤ c) (hC : kIns.C w A l.length l) (hG : Gl w) :
    Calls Tryd.prog 7 #[.slice A l.length c] w (WritePost l w) := by
  have hm := Kd.C_max hC
  have cN := ref_NestCheck l (fun x hx => ⟨(hX x hx).op0, (hX x hx).op1⟩) A c w hl hC hG
  obtain ⟨R, hR⟩ : ∃ R, Trp.nestCheck l = R := ⟨_, rfl⟩
  rw [hR] at cN
  have CN := Aside0.mk cN
  have HR := Aside0.mk hR
  have HC := Aside0.mk hC
  have HG := Aside0.mk hG
  have HX := Aside0.mk hX
  clear cN hR hC hG hX
  by_cases hr : R = 0
  · subst hr
    have HAll := Aside0.mk (Trp.check_all HR.out)
    have h200 := HAll.out.1
    go_enter Tryd.func7, Tryd.ntmps7
    go_wp2_with (go_at_call 19; refine CN.out.mono ?_; rintro e w1 ⟨rfl, hb⟩; have HB1 := Aside0.mk hb; clear hb)
    go_loopw [5, 20] (fun v5 v20 wr => ∃ j : Nat, j ≤ l.length ∧ v20 = .int .i64 j ∧ v5 = .string ⟨(Trp.asmText (l.take j)).toArray⟩ ∧ Aside0 (Below w.heap.size w wr)) (fun _ v20 _ => l.length - (intOf v20).toNat)
    case atStart => exact ⟨0, Nat.zero_le _, rfl, rfl, ⟨HB1.out⟩⟩
    case round =>
      obtain ⟨wo, rfl⟩ : ∃ wo : World, wo = wr := ⟨_, rfl⟩
      obtain ⟨j, hj, rfl, rfl, HWr⟩ := hrel
      have htl : (Trp.asmText (l.take j)).length ≤ 450 * j := by
        have := Trp.text_len (l.take j) (fun x hx => (HX.out x (List.mem_of_mem_take hx)).len (Trp.tos_le (HAll.out.2 x (List.mem_of_mem_take hx))))
        rw [List.length_take, Nat.min_eq_left hj] at this
        exact this
      obtain ⟨t, htx⟩ : ∃ t, Trp.asmText (l.take j) = t := ⟨_, rfl⟩
      rw [htx] at htl
      simp only [htx]
      have HT := Aside0.mk htx
      clear htx
      by_cases hlt : j < l.length
      · obtain ⟨ad, A3, c3, hA, e0, e1, e2, e3, hl3, hC3⟩ := at_TIns (Kd.C_below HC.out HWr.out) (j : Int) (by omega) (by omega)
        obtain ⟨x, hx⟩ : ∃ x, rd_TIns l (j : Int) = x := ⟨_, rfl⟩
        simp only [hx, Int.toNat_natCast] at e0 e1 e2 e3 hl3 hC3
        rw [rdIns_eq] at hx
        have hmem : x ∈ l := by rw [← hx, List.getD_eq_getElem?_getD, List.getElem?_eq_getElem hlt]; exact List.getElem_mem hlt
        have hXx := HX.out x hmem
        have hic := HAll.out.2 x hmem
        have htos := Trp.tos_le hic
        have HXe := Aside0.mk hx
        have HGr := Aside0.mk ((HG.out.below HWr.out).below ((Below.refl _ _).alloc (Nat.le_refl _) (.cells #[.int .u8 x.op, .int .i64 x.a, .int .i64 x.b, .slice A3 x.tos.length c3] 45)))
        have hll := hXx.len htos
        subst hA
        obtain ⟨n, hn⟩ := Int.eq_ofNat_of_zero_le hXx.op0
        have hn255 : n ≤ 255 := by have := hXx.op1; omega
        obtain ⟨hfe, hk0, hk9⟩ := form_eq x.op hXx.op0 hXx.op1
        have hb0 : Trp.besides x.op ≠ 0 := bes_ok hic
        have hargs := args_form x hXx.op0 hXx.op1 hb0
        have hka := kind_a hic
        have hFT := formTests _ hk0 hk9
        rw [← hfe] at hFT
        obtain ⟨s, hs⟩ : ∃ s, Trp.rBeside x.op = s := ⟨_, rfl⟩
        obtain ⟨k, hk⟩ : ∃ k, Trp.besides x.op = k := ⟨_, rfl⟩
        rw [hk] at hFT hk0 hk9 hargs hka hb0
        rw [hs] at hFT
        obtain ⟨tk, tt, tab, ta, taz, tc, td⟩ := hFT
        obtain ⟨nm, hnm⟩ : ∃ nm, Trp.nameOf x.op = nm := ⟨_, rfl⟩
        have hnl : nm.length ≤ 30 := by rw [← hnm]; exact Trp.name_len' x.op hXx.op0 hXx.op1
        have cNm : Calls Tryd.prog 5 #[.int .u8 x.op] (wo.alloc (.cells #[.int .u8 x.op, .int .i64 x.a, .int .i64 x.b, .slice A3 x.tos.length c3] 45)) fun e w' => e = .returned (.tuple #[.string ⟨nm.toArray⟩, .bool (Trp.asmName n).isSome]) ∧ Below (wo.alloc (.cells #[.int .u8 x.op, .int .i64 x.a, .int .i64 x.b, .slice A3 x.tos.length c3] 45)).heap.size (wo.alloc (.cells #[.int .u8 x.op, .int .i64 x.a, .int .i64 x.b, .slice A3 x.tos.length c3] 45)) w' := by
          have := ref_AsmName n hn255 _ HGr.out
          rw [← hn] at this
          refine Calls.mono this ?_
          rintro e w' ⟨rfl, hb⟩
          refine ⟨?_, hb⟩
          rw [← hnm, hn]; rfl
        have CNm := Aside0.mk cNm
        have cBs : ∀ W, Gl W → Calls Tryd.prog 20 #[.int .u8 x.op] W fun e w' => e = .returned (.string s) ∧ Below W.heap.size W w' := fun W hW => hs ▸ ref_beside x.op hXx.op0 hXx.op1 W hW
        have CBs := Aside0.mk cBs
        have HArgs := Aside0.mk hargs
        have HKa := Aside0.mk hka
        have HNm := Aside0.mk hnm
        have HXx := Aside0.mk hXx
        have HC3 := Aside0.mk hC3
        clear hx hC3 hmem hic hfe hs hk hnm cNm cBs hargs hka hn hXx hn255
        obtain ⟨op, a, b, tos⟩ := x
        simp only at *
        go_upto_block 2 with (first
          | (go_at_call 5; refine CNm.out.mono ?_; rintro e w2 ⟨rfl, hb2⟩; have f0 := below_new hb2 0; have f1 := below_new hb2 1; have f2 := below_new hb2 2; have f3 := below_new hb2 3; have hz2 := hb2.size; have HB2 := Aside0.mk hb2; clear hb2; simp at f0 f1 f2 f3 hz2)
          | (go_at_call 20; refine (CBs.out _ (HGr.out.below HB2.out)).mono ?_; rintro e w3 ⟨rfl, hb3⟩; have g1 := (hb3.cell (p := ⟨wo.heap.size, 1, none⟩) (by show wo.heap.size < _; omega)).trans f1; have g2 := (hb3.cell (p := ⟨wo.heap.size, 2, none⟩) (by show wo.heap.size < _; omega)).trans f2; have g3 := (hb3.cell (p := ⟨wo.heap.size, 3, none⟩) (by show wo.heap.size < _; omega)).trans f3; have hz3 := hb3.size; have HB3 := Aside0.mk hb3; clear hb3))
        obtain ⟨q, hq⟩ : ∃ q, nm ++ Trp.asmRest (Trp.asmArgs ⟨op, a, b, tos⟩) = q := ⟨_, rfl⟩
        have HQ := Aside0.mk hq
        rw [HArgs.out] at hq
        have HQ2 := Aside0.mk hq
        have hda : ∀ W, Calls Tryd.prog 11 #[.int .i64 a] W fun e w' => e = .returned (.string ⟨(Lib.itoa a).toArray⟩) ∧ Below W.heap.size W w' := fun W => ref_digits_any a HXx.out.a.1 HXx.out.a.2 W
        have hdb : ∀ W, Calls Tryd.prog 11 #[.int .i64 b] W fun e w' => e = .returned (.string ⟨(Lib.itoa b).toArray⟩) ∧ Below W.heap.size W w' := fun W => ref_digits_any b HXx.out.b.1 HXx.out.b.2 W
        have hal := Trp.itoa_le a HXx.out.a.1 HXx.out.a.2
        have hbl := Trp.itoa_le b HXx.out.b.1 HXx.out.b.2
        obtain ⟨da, hdad⟩ : ∃ da, Lib.itoa a = da := ⟨_, rfl⟩
        obtain ⟨db, hdbd⟩ : ∃ db, Lib.itoa b = db := ⟨_, rfl⟩
        rw [hdad] at hal hda
        rw [hdbd] at hbl hdb
        have HDa := Aside0.mk hda
        have HDb := Aside0.mk hdb
        have HDad := Aside0.mk hdad
        have HDbd := Aside0.mk hdbd
        have z1 : ¬ 9223372036854775807 < 1 + da.length := by omega
        have z2 : ¬ 9223372036854775807 < nm.length + (1 + da.length) := by omega
        clear hq hda hdb hdad hdbd
        go_cut [8] (fun v8 wc => v8 = .string ⟨q.toArray⟩ ∧ Aside0 (Below w3.heap.size w3 wc))
        case first =>
          have hkc : k = 1 ∨ k = 2 ∨ k = 3 ∨ k = 4 ∨ k = 5 ∨ k = 6 ∨ k = 7 ∨ k = 8 ∨ k = 9 := by omega
          clear hk0 hk9 hb0
          rcases hkc with rfl | rfl | rfl | rfl | rfl | rfl | rfl | rfl | rfl
          all_goals simp only [Int.reduceEq, decide_false, decide_true] at tk tt tab ta taz tc td
          · have HQ3 : Aside0 (nm = q) := ⟨by rw [← HQ2.out]; simp [Trp.asmRest]⟩
            go_wp2
            go_meet
            case rel => exact ⟨by rw [HQ3.out], ⟨Below.refl _ _⟩⟩
          · rcases HKa.out rfl with rfl | rfl | rfl
            · have HQ3 : Aside0 (nm = q) := ⟨by rw [← HQ2.out]; simp [Trp.asmRest]⟩
              have z3 : ¬ 9223372036854775807 < nm.length + 0 := by omega
              have hi := idx64
              go_wp2
              go_meet
              case rel => exact ⟨by rw [← HQ3.out]; apply congrArg; apply ByteArray.ext; simp, ⟨Below.refl _ _⟩⟩
            · have HQ3 : Aside0 (nm ++ [32, 105, 51, 50] = q) := ⟨by rw [← HQ2.out]; simp [Trp.asmRest]⟩
              have hi := idx127
              have z3 : ¬ 9223372036854775807 < nm.length + 4 := by omega
              go_wp2
              go_meet
              case rel => exact ⟨by rw [← HQ3.out]; apply congrArg; apply ByteArray.ext; simp, ⟨Below.refl _ _⟩⟩
            · have HQ3 : Aside0 (nm ++ [32, 105, 54, 52] = q) := ⟨by rw [← HQ2.out]; simp [Trp.asmRest]⟩
              have hi := idx126
              have z3 : ¬ 9223372036854775807 < nm.length + 4 := by omega
              go_wp2
              go_meet
              case rel => exact ⟨by rw [← HQ3.out]; apply congrArg; apply ByteArray.ext; simp, ⟨Below.refl _ _⟩⟩
          · have HQ3 : Aside0 (nm ++ 32 :: da = q) := ⟨by rw [← HQ2.out, ← HDad.out]; simp [Trp.asmRest]⟩
            go_wp2_with (go_at_call 11; refine (HDa.out _).mono ?_; rintro e w4 ⟨rfl, hb4⟩; have HB4 := Aside0.mk hb4; clear hb4)
            go_meet
            case rel => exact ⟨by rw [← HQ3.out]; apply congrArg; apply ByteArray.ext; simp, ⟨HB4.out⟩⟩
          · have HQ3 : Aside0 (nm ++ Trp.asmRest ((tos ++ [a]).map Lib.itoa) = q) := ⟨by rw [← HQ2.out]; simp⟩
            have hbl1 := buildL1
            have cCp := fun W (hW : (Kd.int .i64).C W A3 tos.length tos) => ref_Copy64 tos A3 c3 W (by omega) hW
            have CCp := Aside0.mk cCp
            have hC4 : Aside0 ((Kd.int .i64).C w3 A3 tos.length tos) := ⟨Kd.C_below (Kd.C_below (Kd.C_alloc HC3.out _) HB2.out) HB3.out⟩
            clear cCp
            have hx3 : wo.heap.size < w3.heap.size := by omega
            go_upto_region 14 with (fail)
            go_cut [50, 51, 52] (fun v50 v51 v52 wx => ∃ g5 k5 : Nat, v50 = .slice (some ⟨g5, 0, none⟩) (tos.length + 1) k5 ∧ v51 = .int .i64 ((tos.length : Int) + 1) ∧ v52 = .int .i64 0 ∧ Aside0 (Below w3.heap.size w3 wx ∧ g5 < wx.heap.size ∧ (∀ j, j < tos.length + 1 → wx.cell? ⟨g5, j, none⟩ = some (.int .i64 ((tos ++ [a]).getD j 0))) ∧ tos.length + 1 ≤ k5))
            case first =>
              go_region_law (first
                | (refine appN_step rfl (.tmp 46) (.tmp 49) 43 2 (.int .i64 0) 8 rfl Tryd.underlying43 infoL64 rfl (by decide) (by first | rfl | (simp [Act.eval, Act.put]; done) | (simp [Act.eval, Act.put]; rfl)) (base := w3.heap.size) (v := .slice A4 tos.length k4) (by first | exact HOw.out | exact HOw.out.alloc _ | exact own_weaken HOw.out (by simp)) ⟨_, 0, none⟩ (by first | rfl | (simp [Act.eval, Act.put]; done) | (simp [Act.eval, Act.put]; rfl)) (.int .i64 a) (by first | exact hbx | (simp [World.cell?_alloc_new]; done)) rfl (by have := HB4.out.size; simp at this; first | omega | (simp; omega)) (by omega) ?_; intro v5 w5 hown5 hgr5 hat5; obtain ⟨A5, k5, rfl⟩ := own_slice hown5; have HO5 := Aside0.mk hown5; have HG5 := Aside0.mk hgr5; clear hown5 hgr5 hat5)
                | (go_simp; go_at_call 21; refine (CCp.out _ (by first | exact Kd.C_below (Kd.C_alloc hC4.out _) (Below.refl _ _).drew | exact Kd.C_alloc hC4.out _)).mono ?_; rintro e w4 ⟨A4, k4, rfl, hown, hb4⟩; have hbx := (hb4.cell (p := ⟨w3.heap.size, 0, none⟩) (by simp)).trans (show _ = some (Value.int .i64 a) by simp [World.cell?_alloc_new]); have HOw := Aside0.mk hown; have HB4 := Aside0.mk hb4; clear hown hb4)
                | (go_simp; go_at_call 21; refine (CCp.out _ (by first | exact Kd.C_below hC4.out (Below.refl _ _).drew | exact hC4.out)).mono ?_; rintro e w4 ⟨A4, k4, rfl, hown, hb4⟩; have HOw := Aside0.mk hown; have HB4 := Aside0.mk hb4; have m1 := (hb4.cell (p := ⟨wo.heap.size, 1, none⟩) (by simp; omega)).trans g1; clear hown hb4))
              all_goals
                have hB5 : Below w3.heap.size w3 w5 := by
                  have h1 := HB4.out
                  have h2 := HG5.out
                  have h3 := HOw.out
                  first
                    | exact ((Below.refl _ _).drew.trans (h1.mono (by simp))).grown (World.grownBy.trans (World.grownBy_alloc w4 _ _) h2) (by have := h1.size; simp at this; omega) (fun k hk => by have := own_base h3 k hk; simp at this; omega)
                    | exact ((((Below.refl _ _).alloc (Nat.le_refl _) _).drew).trans (h1.mono (by simp))).grown h2 (by have := h1.size; simp at this; omega) (fun k hk => by have := own_base h3 k hk; simp at this; omega)
                obtain ⟨g5, hA5, hlt5, hcs5, hk5⟩ := own_ints (xs := tos ++ [a]) (by simpa using HO5.out) (by simp)
                subst hA5
                have HCs := Aside0.mk (And.intro hB5 (And.intro hlt5 (And.intro hcs5 hk5)))
                clear hcs5 hB5
                go_wp2_with (fail)
                go_meet
                case rel => exact ⟨g5, k5, rfl, by simp, rfl, HCs⟩
            case rest =>
              obtain ⟨g5, k5, rfl, rfl, rfl, HCut⟩ := hcut
              obtain ⟨w5, rfl⟩ : ∃ w5 : World, w5 = wc := ⟨_, rfl⟩
              obtain ⟨hB5, hlt5, hcs5, hk5⟩ := HCut.out
              have HCs := Aside0.mk hcs5
              have HBw := Aside0.mk hB5
              have hns : (tos ++ [a]).length = tos.length + 1 := by simp
              obtain ⟨ns, hnsd⟩ : ∃ ns, tos ++ [a] = ns := ⟨_, rfl⟩
              rw [hnsd] at HQ3 HCs hns
              have HI : Aside0 (∀ m ∈ ns, I64 m) := ⟨fun m hm => by
                rw [← hnsd] at hm
                rcases List.mem_append.1 hm with h | h
                · exact HXx.out.tos m h
                · rw [List.mem_singleton.1 h]; exact HXx.out.a⟩
              have HNS := Aside0.mk hns
              clear hcs5 hB5 hnsd hns HCut
              go_wp2_with (fail)
              go_loopw [8, 52] (fun v8 v52 wr => ∃ i : Nat, i ≤ tos.length + 1 ∧ v52 = .int .i64 i ∧ v8 = .string ⟨(nm ++ Trp.asmRest ((ns.take i).map Lib.itoa)).toArray⟩ ∧ Aside0 (Below w5.heap.size w5 wr)) (fun _ v52 _ => tos.length + 1 - (intOf v52).toNat)
              case atStart => exact ⟨0, Nat.zero_le _, rfl, by simp [Trp.asmRest], ⟨Below.refl _ _⟩⟩
              case round =>
                obtain ⟨i, hi, rfl, rfl, HBq⟩ := hrel
                have hrl : (nm ++ Trp.asmRest ((ns.take i).map Lib.itoa)).length ≤ 30 + 22 * 17 := by
                  have := Trp.rest_len ((ns.take i).map Lib.itoa) (fun s hs => by
                    obtain ⟨m, hm, rfl⟩ := List.mem_map.1 hs
                    have := HI.out m (List.mem_of_mem_take hm)
                    exact Trp.itoa_le m this.1 this.2)
                  rw [List.length_append]
                  have h2 : ((ns.take i).map Lib.itoa).length ≤ 17 := by simp; omega
                  omega
                obtain ⟨r, hrd⟩ : ∃ r, nm ++ Trp.asmRest ((ns.take i).map Lib.itoa) = r := ⟨_, rfl⟩
                rw [hrd] at hrl
                simp only [hrd]
                have HRd := Aside0.mk hrd
                clear hrd
                by_cases hil : i < tos.length + 1
                · have e0 : wr.cell? ⟨g5, i, none⟩ = some (.int .i64 (ns.getD i 0)) := (HBq.out.cell (p := ⟨g5, i, none⟩) hlt5).trans (HCs.out i hil)
                  obtain ⟨m, hmd⟩ : ∃ m, ns.getD i 0 = m := ⟨_, rfl⟩
                  rw [hmd] at e0
                  have hin : i < ns.length := by rw [HNS.out]; exact hil
                  have hmI := HI.out m (by rw [← hmd, List.getD_eq_getElem?_getD, List.getElem?_eq_getElem hin]; exact List.getElem_mem hin)
                  have hml := Trp.itoa_le m hmI.1 hmI.2
                  have cm : ∀ W, Calls Tryd.prog 11 #[.int .i64 m] W fun e w' => e = .returned (.string ⟨(Lib.itoa m).toArray⟩) ∧ Below W.heap.size W w' := fun W => ref_digits_any m hmI.1 hmI.2 W
                  obtain ⟨dm, hdm⟩ : ∃ dm, Lib.itoa m = dm := ⟨_, rfl⟩
                  rw [hdm] at hml cm
                  have CM := Aside0.mk cm
                  have HDM := Aside0.mk hdm
                  have HMD := Aside0.mk hmd
                  have y1 : ¬ 9223372036854775807 < 1 + dm.length := by omega
                  have y2 : ¬ 9223372036854775807 < r.length + (1 + dm.length) := by omega
                  clear cm hdm hmd
                  go_wp2_with (go_at_call 11; refine (CM.out _).mono ?_; rintro e w6 ⟨rfl, hb6⟩; have HB6 := Aside0.mk hb6; clear hb6)
                  go_roundw
                  case rel => exact ⟨i + 1, by omega, by go_num, by rw [take_snoc1 ns i hin, HMD.out, List.map_append, rest_append, ← List.append_assoc, HRd.out, List.map_cons, List.map_nil, HDM.out]; apply congrArg; apply ByteArray.ext; simp [Trp.asmRest], ⟨below_step HBq.out HB6.out⟩⟩
                  case measure => simp [intOf]; omega
                · obtain rfl : i = tos.length + 1 := by omega
                  have HQ4 : Aside0 (r = q) := ⟨by rw [← HRd.out, ← HQ3.out, ← HNS.out, List.take_length]⟩
                  go_wp2_with (fail)
                  go_meet
                  case rel => exact ⟨by rw [HQ4.out], ⟨below_step HBw.out HBq.out⟩⟩
          · have HQ3 : Aside0 (nm ++ 32 :: da = q) := ⟨by rw [← HQ2.out, ← HDad.out]; simp [Trp.asmRest]⟩
            go_wp2_with (go_at_call 11; refine (HDa.out _).mono ?_; rintro e w4 ⟨rfl, hb4⟩; have HB4 := Aside0.mk hb4; clear hb4)
            go_meet
            case rel => exact ⟨by rw [← HQ3.out]; apply congrArg; apply ByteArray.ext; simp, ⟨HB4.out⟩⟩
          · have HQ3 : Aside0 (nm ++ 32 :: (da ++ 32 :: db) = q) := ⟨by rw [← HQ2.out, ← HDad.out, ← HDbd.out]; simp [Trp.asmRest]⟩
            have z3 : ¬ 9223372036854775807 < 1 + da.length + 1 := by omega
            have z4 : ¬ 9223372036854775807 < 1 + da.length + 1 + db.length := by omega
            have z5 : ¬ 9223372036854775807 < nm.length + (1 + da.length + 1 + db.length) := by omega
            go_upto_region 20 with (fail)
            go_region_with (first
              | (go_at_call 11; (with_reducible refine (HDa.out _).mono ?_); rintro e w4 ⟨rfl, hb4⟩; have m1 := (hb4.cell (p := ⟨wo.heap.size, 1, none⟩) (by show wo.heap.size < w3.heap.size; omega)).trans g1; have m2 := (hb4.cell (p := ⟨wo.heap.size, 2, none⟩) (by show wo.heap.size < w3.heap.size; omega)).trans g2; have HB4 := Aside0.mk hb4; clear hb4)
              | (go_at_call 11; (with_reducible refine (HDb.out _).mono ?_); rintro e w5 ⟨rfl, hb5⟩; have HB5 := Aside0.mk hb5; clear hb5))
            all_goals
              go_wp2_with (fail)
              go_meet
              case rel => exact ⟨by rw [← HQ3.out]; apply congrArg; apply ByteArray.ext; simp, ⟨below_step (below_step ((Below.refl _ _).drew) HB4.out) HB5.out⟩⟩
          · have HQ3 : Aside0 (nm = q) := ⟨by rw [← HQ2.out]; simp [Trp.asmRest]⟩
            go_wp2
            go_meet
            case rel => exact ⟨by rw [HQ3.out], ⟨Below.refl _ _⟩⟩
          · have HQ3 : Aside0 (nm ++ 32 :: da = q) := ⟨by rw [← HQ2.out, ← HDad.out]; simp [Trp.asmRest]⟩
            go_wp2_with (go_at_call 11; refine (HDa.out _).mono ?_; rintro e w4 ⟨rfl, hb4⟩; have HB4 := Aside0.mk hb4; clear hb4)
            go_meet
            case rel => exact ⟨by rw [← HQ3.out]; apply congrArg; apply ByteArray.ext; simp, ⟨HB4.out⟩⟩
          · have HQ3 : Aside0 (nm ++ 32 :: da = q) := ⟨by rw [← HQ2.out, ← HDad.out]; simp [Trp.asmRest]⟩
            go_wp2_with (go_at_call 11; refine (HDa.out _).mono ?_; rintro e w4 ⟨rfl, hb4⟩; have HB4 := Aside0.mk hb4; clear hb4)
            go_meet
            case rel => exact ⟨by rw [← HQ3.out]; apply congrArg; apply ByteArray.ext; simp, ⟨HB4.out⟩⟩
        case rest =>
          obtain ⟨rfl, HBc⟩ := hcut
          have hql : q.length + 1 ≤ 450 := by
            have : (Trp.asmLine ⟨op, a, b, tos⟩) = q ++ [10] := by rw [← HQ.out, ← HNm.out]; rfl
            rw [this] at hll; simpa using hll
          have HLine : Aside0 (Trp.asmLine ⟨op, a, b, tos⟩ = q ++ [10]) := ⟨by rw [← HQ.out, ← HNm.out]; rfl⟩
          have y1 : ¬ 9223372036854775807 < q.length + 1 := by omega
          have y2 : ¬ 9223372036854775807 < t.length + (q.length + 1) := by omega
          clear tk tt tab ta taz tc td hll z1 z2
          go_wp2_with (go_at_call 22; refine (ref_chr 10 _).mono ?_; rintro e w6 ⟨rfl, hb6⟩; rw [show (UInt8.ofNat ((10 : Int) % 256).toNat) = 10 from rfl]; have HB6 := Aside0.mk hb6; clear hb6)
          go_roundw
          case rel => exact ⟨j + 1, by omega, by go_num, by rw [text_snoc l j hlt, HT.out, HXe.out, HLine.out]; apply congrArg; apply ByteArray.ext; simp, ⟨below_step (below_step (below_step (below_step HWr.out ((Below.refl _ _).alloc (Nat.le_refl _) _)) HB2.out) HB3.out) (below_step HBc.out HB6.out)⟩⟩
          case measure => simp [intOf]; omega
      · obtain rfl : j = l.length := by omega
        rw [List.take_length] at HT
        have HWe : Aside0 (Trp.wErr l = if 6000 < t.length then 2 else 0) := ⟨by unfold Trp.wErr; rw [HR.out, if_neg (by decide), HT.out]⟩
        by_cases h6 : 6000 < t.length
        · have h6' : (6000 : Int) < (t.length : Int) := by omega
          have HE : Aside0 (Trp.wErr l = 2) := ⟨by rw [HWe.out, if_pos h6]⟩
          clear h6
          go_wp2
          go_ret2
          exact WritePost.mk (by unfold Trp.wText; rw [HE.out, if_pos (by decide)]; rfl) HE.out HWr.out
        · have h6' : ¬ (6000 : Int) < (t.length : Int) := by omega
          have HE : Aside0 (Trp.wErr l = 0) := ⟨by rw [HWe.out, if_neg h6]⟩
          clear h6
          go_wp2
          go_ret2
          exact WritePost.mk (by unfold Trp.wText; rw [HE.out, if_neg (by decide), HT.out]; rfl) HE.out HWr.out
  · have hr2 : (R != 0) = true := by simpa using hr
    have HN := Aside0.mk hr
    clear hr
    go_enter Tryd.func7, Tryd.ntmps7
    go_wp2_with (go_at_call 19; refine CN.out.mono ?_; rintro e w1 ⟨rfl, hb⟩)
    go_ret2
    have he : Trp.wErr l = R := by unfold Trp.wErr; rw [HR.out, if_pos HN.out]
    exact WritePost.mk (by unfold Trp.wText; rw [he, if_pos HN.out]; rfl) he hb
end Go.Proofs.YteaphfmgcpanmaaDoor

namespace Go.Proofs.YteaphfmgcpanmaaDoor
set_option linter.unusedVariables false
set_option linter.unusedSimpArgs false
open Go.RowKit Go.Proofs.YteaphfmgcpanmaaDoorW.PrintWords

set_option maxHeartbeats 4000000 in
theorem law_AsmSays (op : Nat) (hop : op ≤ 255) (l : List Trp.Ins) (hX : ∀ x ∈ l, XIn x) (A : Option Addr) (c : Nat) (w : World) (hl : l.length ≤ c) (hC : kIns.C w A l.length l) (hL : Lb w) :
    Calls Tryd.prog 3 #[.int .u8 (op : Int), .slice A l.length c] w fun e w' => e = .returned (.bool true) ∧ Below w.heap.size w w' := by
  have c1 := asm_Name op hop w hL.gl
  have c2 : ∀ W, Below w.heap.size w W → Calls Tryd.prog 5 #[.int .u8 (op : Int)] W (NamePost (Trp.asmName op) W) := fun W hb => ref_AsmName op hop W (hL.gl.below hb)
  have c3 : ∀ W, Below w.heap.size w W → Calls Tryd.prog 6 #[.slice A l.length c] W (WritePost l W) := fun W hb => asm_Write l hX A c W hl (Kd.C_below hC hb) (hL.below hb)
  have c4 : ∀ W, Below w.heap.size w W → Calls Tryd.prog 7 #[.slice A l.length c] W (WritePost l W) := fun W hb => ref_AsmWrite l hX A c W hl (Kd.C_below hC hb) (hL.gl.below hb)
  have C1 := Aside0.mk c1
  have C2 := Aside0.mk c2
  have C3 := Aside0.mk c3
  have C4 := Aside0.mk c4
  clear c1 c2 c3 c4 hX hC hL
  go_enter Tryd.func3, Tryd.ntmps3
  go_wp2_with (first
    | (go_at_call 4; refine C1.out.mono ?_; rintro e w1 ⟨rfl, hb1⟩; have HB1 := Aside0.mk hb1; clear hb1)
    | (go_at_call 5; refine (C2.out _ HB1.out).mono ?_; rintro e w2 ⟨rfl, hb2⟩; have HB2 := Aside0.mk (below_step HB1.out hb2); clear hb2)
    | (go_at_call 6; refine (C3.out _ HB2.out).mono ?_; rintro e w3 ⟨rfl, hb3⟩; have HB3 := Aside0.mk (below_step HB2.out hb3); clear hb3)
    | (go_at_call 7; refine (C4.out _ HB3.out).mono ?_; rintro e w4 ⟨rfl, hb4⟩; have HB4 := Aside0.mk (below_step HB3.out hb4); clear hb4))
  all_goals go_ret
  all_goals exact ⟨by simp, HB4.out⟩
end Go.Proofs.YteaphfmgcpanmaaDoor

namespace Go.Proofs.YteaphfmgcpanmaaDoor
set_option linter.unusedVariables false
set_option linter.unusedSimpArgs false
open Go.RowKit Go.Proofs.YteaphfmgcpanmaaDoorW.PrintWords Go.ChangeShapes Go.WideShapes Go.Deep

section
variable {H : Type} {enc : TypeId × Value → H} {P : Program} {w : World} {base : Nat} {spare : Nat → Bool} {held : Bool}
theorem open_slice_fields {t e : TypeId} {fs : Array Field} {fuel : Nat} {cs : List Value} {x : DataW H × List MemPlace} (ht : P.underlying t = some (.slice e)) (he : P.underlying e = some (.struct fs))
    (hone : oneCellFields P fs = true) (hC : P.cellsOf e = fs.size) (h : DataW.trod enc P w base spare held fuel t cs = some x) :
    (cs = [.slice none 0 0] ∧ x = (.nil, [])) ∨
    ∃ (a : Addr) (len cap m : Nat) (D : Nat → DataW H) (Pl : Nat → List MemPlace), cs = [.slice (some a) len cap] ∧ base ≤ a.block ∧ len ≤ cap ∧ cap ≤ maxLen ∧ m = (if spare a.block then cap else len) ∧
      x = (.slice ((List.range len).map D) ((List.range (m - len)).map fun j => D (len + j)), MemPlace.row a (m * fs.size) ++ (List.range m).flatMap Pl) ∧
      ∀ i, i < m → ∃ (ys : List (DataW H × List MemPlace)) (n : Nat), D i = .agg (ys.map (·.1)) ∧ Pl i = ys.flatMap (·.2) ∧ ys.length = fs.size ∧
        ∀ (j : Nat) (f : Field), fs[j]? = some f → ∃ (v : Value) (y : DataW H × List MemPlace), w.cell? (a.add (i * fs.size + j)) = some v ∧ ys[j]? = some y ∧ DataW.trod enc P w base spare held n f.type [v] = some y := by
  rcases open_slice ht h with h0 | ⟨a, len, cap, m, n, D, Pl, hcs, hb, hl, hm, hmm, hx, hi⟩
  · exact .inl h0
  · refine .inr ⟨a, len, cap, m, D, Pl, hcs, hb, hl, hm, hmm, by rw [hC] at hx; exact hx, fun i him => ?_⟩
    obtain ⟨cs', hc, ht'⟩ := hi i him
    rw [hC] at hc
    obtain ⟨ys, n', hn', hy, hlen, hyl, hf⟩ := DataW.trod_struct he ht'
    obtain ⟨_, hcl, hat⟩ := World.cells?_some hc
    simp only [Prod.mk.injEq] at hy
    refine ⟨ys, n', hy.1, hy.2, hyl, fun j f hj => ?_⟩
    obtain ⟨ho, hk⟩ := hone_of hone j f hj
    have hjl : j < fs.size := (Array.getElem?_eq_some_iff.1 hj).1
    have hcell := hat j hjl
    have hv : cs'[j]? = some (cs'[j]'(by omega)) := List.getElem?_eq_getElem (by omega)
    have h1 := hf j f hj
    rw [ho, hk] at h1
    have hone' : (cs'.drop j).take 1 = [cs'[j]'(by omega)] := by
      rw [List.drop_eq_getElem_cons (by omega)]
      rfl
    rw [hone'] at h1
    have hys : ys[j]? = some (ys[j]'(by omega)) := List.getElem?_eq_getElem (by omega)
    refine ⟨_, _, ?_, hys, h1.trans hys⟩
    rw [← Go.Deep.add_add, hcell, hv]

theorem list_of {α : Type} (p : Nat → α → Prop) : ∀ (n : Nat), (∀ i, i < n → ∃ x, p i x) → ∃ l : List α, l.length = n ∧ ∀ i x, l[i]? = some x → p i x
  | 0, _ => ⟨[], rfl, fun i x h => by simp at h⟩
  | n + 1, h => by
    obtain ⟨l, hl, hp⟩ := list_of p n (fun i hi => h i (by omega))
    obtain ⟨x, hx⟩ := h n (by omega)
    refine ⟨l ++ [x], by simp [hl], fun i y hy => ?_⟩
    rcases Nat.lt_or_ge i n with hi | hi
    · exact hp i y (by rwa [List.getElem?_append_left (by omega)] at hy)
    · have : i = n := by
        have := (List.getElem?_eq_some_iff.1 hy).1
        simp [hl] at this; omega
      subst this
      rw [List.getElem?_append_right (by omega), hl] at hy
      simp at hy
      exact hy ▸ hx

/-- a slice of numbers, opened -/
theorem open_nums {t e : TypeId} {k : IntKind} {fuel : Nat} {v : Value} {x : DataW H × List MemPlace} (ht : P.underlying t = some (.slice e)) (he : P.underlying e = some (.int k)) (hc : P.cellsOf e = 1)
    (h : DataW.trod enc P w base (fun _ => true) held fuel t [v] = some x) :
    ∃ (A : Option Addr) (c : Nat) (l : List Int), v = .slice A l.length c ∧ l.length ≤ c ∧ (Kd.int k).C w A l.length l ∧ (∀ n ∈ l, (Lit.int k n).wf = true) ∧ l.length ≤ maxLen := by
  rcases open_ints ht he hc h with ⟨hcs, _⟩ | ⟨a, len, cap, zs, hcs, _, hl, hm, hz, _, hcell, hwz⟩
  · simp at hcs
    exact ⟨none, 0, [], hcs, Nat.le_refl _, Kd.C_of_reads (d := (0 : Int)) (h1 := fun _ => rfl) ⟨rfl, by decide, fun h => absurd h (by decide)⟩, fun n hn => by simp at hn, Nat.zero_le _⟩
  · simp at hcs
    obtain ⟨l, e1, h1, h2, h3, h4⟩ := ReadsInt.ofRowC (k := k) (w := w) (a := some a) (len := len) (cap := cap) (zs := zs) (.inr ⟨a, rfl, hl, hm, by simpa using hz, hcell, hwz⟩)
    exact ⟨some a, cap, l, by rw [hcs, e1], h4, Kd.C_of_reads (d := (0 : Int)) (h1 := fun _ => rfl) h1, h3, h2⟩
end

def InWf (x : Trp.Ins) : Prop := (Lit.int .u8 x.op).wf = true ∧ (Lit.int .i64 x.a).wf = true ∧ (Lit.int .i64 x.b).wf = true ∧ ∀ n ∈ x.tos, (Lit.int .i64 n).wf = true

/-- a slice of instructions, opened -/
theorem open_inss {H : Type} {enc : TypeId × Value → H} {w : World} {base : Nat} {held : Bool} {fuel : Nat} {v : Value} {x : DataW H × List MemPlace}
    (h : DataW.trod enc Tryd.prog w base (fun _ => true) held fuel 22 [v] = some x) :
    ∃ (A : Option Addr) (c : Nat) (l : List Trp.Ins), v = .slice A l.length c ∧ l.length ≤ c ∧ kIns.C w A l.length l ∧ (∀ n ∈ l, InWf n) ∧ l.length ≤ maxLen := by
  rcases open_slice_fields Tryd.underlying22 Tryd.underlying45 (by kernel_rfl) (by kernel_rfl) h with ⟨hcs, _⟩ | ⟨a, len, cap, m, D, Pl, hcs, hb, hl, hm, hmm, _, hi⟩
  · simp at hcs
    exact ⟨none, 0, [], hcs, Nat.le_refl _, ⟨rfl, by decide, fun h => absurd h (by decide)⟩, fun n hn => by simp at hn, Nat.zero_le _⟩
  · simp at hcs
    simp only [if_true] at hmm
    have key : ∀ i, i < len → ∃ y : Trp.Ins, InWf y ∧ ∃ cs, cs.length = 4 ∧ kIns.K w y cs ∧ ∀ j u, cs[j]? = some u → w.cell? (a.add (i * 4 + j)) = some u := by
      intro i hil
      obtain ⟨ys, n, _, _, _, hf⟩ := hi i (by omega)
      obtain ⟨v0, y0, c0, _, t0⟩ := hf 0 _ rfl
      obtain ⟨v1, y1, c1, _, t1⟩ := hf 1 _ rfl
      obtain ⟨v2, y2, c2, _, t2⟩ := hf 2 _ rfl
      obtain ⟨v3, y3, c3, _, t3⟩ := hf 3 _ rfl
      obtain ⟨n0, e0, _, w0⟩ := DataW.trod_int Tryd.underlying5 t0
      obtain ⟨n1, e1, _, w1⟩ := DataW.trod_int Tryd.underlying2 t1
      obtain ⟨n2, e2, _, w2⟩ := DataW.trod_int Tryd.underlying2 t2
      obtain ⟨A3, k3, l3, e3, hl3, hC3, w3, _⟩ := open_nums Tryd.underlying43 Tryd.underlying2 (by kernel_rfl) t3
      simp at e0 e1 e2
      subst e0; subst e1; subst e2; subst e3
      refine ⟨⟨n0, n1, n2, l3⟩, ⟨w0, w1, w2, w3⟩, _, rfl, kIns_mk w ⟨n0, n1, n2, l3⟩ hl3 hC3, fun j u hj => ?_⟩
      match j, hj with
      | 0, hj => simp at hj; subst hj; exact c0
      | 1, hj => simp at hj; subst hj; exact c1
      | 2, hj => simp at hj; subst hj; exact c2
      | 3, hj => simp at hj; subst hj; exact c3
      | j + 4, hj => simp at hj
    obtain ⟨l, hll, hp⟩ := list_of _ len key
    subst hll
    refine ⟨some a, cap, l, hcs, hl, ⟨rfl, by unfold maxLen at hm; omega, fun _ => ⟨a, rfl, fun j p hj => ?_⟩⟩, fun n hn => ?_, by omega⟩
    · obtain ⟨_, cs, h1, h2, h3⟩ := hp j p hj
      exact ⟨cs, h1, h2, h3⟩
    · obtain ⟨j, hj⟩ := List.getElem?_of_mem hn
      exact (hp j n hj).1
end Go.Proofs.YteaphfmgcpanmaaDoor

namespace Go.Proofs.YteaphfmgcpanmaaDoor.asmSays
set_option linter.unusedVariables false
set_option linter.unusedSimpArgs false
open Go.ChangeShapes Go.WideShapes Go.ChangeAt Go.RowKit

theorem own : ownKnob Tryd.prog.godebug = none := by kernel_rfl
theorem laidOut : laidOutB Tryd.prog = true := by kernel_rfl
theorem gTab : Tryd.prog.globalNamed "internal/strconv.uint64pow10" = some 1 := by kernel_rfl
theorem gTabType : (Tryd.prog.globals[1]?).map (·.type) = some 112 := by kernel_rfl

theorem table {W : World} (h : laidMetH Tryd.prog Rows.asmSaysRow.laid W) : Lib.TabIs Tryd.prog W "internal/strconv.uint64pow10" .u64 Lib.pow10Tab := by
  rw [MakeChecks.laidMetH_plain _ _ _ (by kernel_rfl)] at h
  obtain ⟨g, t, cs, fuel, p, h1, h2, h3, h4⟩ := Lib.laidMet.reads h (n := "internal/strconv.uint64pow10") (d := Rows.laid_internal_strconv_uint64pow10) (.tail _ (.tail _ (.head _)))
  obtain rfl : g = 1 := Option.some.inj (h1.symm.trans gTab)
  obtain rfl : t = 112 := Option.some.inj (h2.symm.trans gTabType)
  have h5 : DataW.trod (fun _ => ()) Tryd.prog W 0 (fun _ => true) false fuel 112 cs.toList = some (Lib.tabData .u64 Lib.pow10Tab, p) := h4
  have h6 := Lib.cells_of_tab Tryd.underlying112 Tryd.underlying60 (by kernel_rfl) (by kernel_rfl) h5
  unfold Lib.TabIs
  rw [h3]
  exact congrArg some (by rw [← Array.toArray_toList (xs := cs), h6])

theorem lb {W : World} (hL : laidMetH Tryd.prog Rows.asmSaysRow.laid W) (hsh : W.ShapedOpen Tryd.prog) : Lb W :=
  ⟨cell_of_shapedOpen_int (P := Tryd.prog) (g := 0) (t := 3) (zero := #[.int .i64 0]) hsh (of_decide_eq_true (by kernel_rfl)) (by kernel_rfl) rfl (by kernel_rfl) (by kernel_rfl) Tryd.underlying3, table hL⟩

theorem xin {x : Trp.Ins} (h : InWf x) : XIn x := by
  obtain ⟨h0, h1, h2, h3⟩ := h
  simp only [Lit.wf, IntKind.min, IntKind.max, IntKind.signed, IntKind.bits, Bool.and_eq_true, decide_eq_true_eq] at h0 h1 h2 h3
  simp at h0 h1 h2 h3
  exact ⟨h0.1, h0.2, h1, h2, h3⟩

set_option maxRecDepth 100000 in
theorem contract (H : Type) (enc : TypeId × Value → H) (W : World) (base : Nat) (args : Array Value) (ds gs : List (DataW H)) (before : List MemPlace)
    (hval : ∀ (j : Nat) t v, Tryd.f3.params[j]? = some t → args[j]? = some v → Value.okWide Tryd.prog W .any base t v)
    (hW : DataW.Whole enc Tryd.prog Tryd.f3.params.toList Rows.asmSaysSpec.vars false W args.toList ds gs before) (hL : laidMetH Tryd.prog Rows.asmSaysRow.laid W) (hsh : W.ShapedOpen Tryd.prog) :
    Calls Tryd.prog 3 args W fun e W' => ∃ v, e = .returned v ∧ Rows.asmSaysSpec.post enc Tryd.prog Tryd.f3 false true false false W args v W' := by
  have hW' := hW
  obtain ⟨p, q, hA0, hV, rfl, hfz, hnd⟩ := hW
  have hA : DataW.TrodAll enc Tryd.prog W 0 (fun _ => true) true Tryd.f3.params.toList args.toList ds p := hA0
  rw [Tryd.params3] at hA hval
  obtain ⟨v0, v1, d0, d1, p0, p1, rfl, rfl, rfl, h0, h1⟩ := trodAll_two hA
  obtain ⟨rfl, rfl⟩ := trodVars_none hV
  obtain ⟨op, rfl, rfl, rfl, wop⟩ := open_int Tryd.underlying5 (hval 0 5 v0 rfl rfl) h0
  obtain ⟨a1, n1, c1, rfl⟩ := okWide_slice Tryd.underlying22 (hval 1 22 v1 rfl rfl)
  clear hA0
  simp only [List.append_nil] at hW'
  have hlt : ∀ x ∈ p1, x.block < W.heap.size := fun x hx => by simpa using hW'.lt x (by simp [hx])
  obtain ⟨fuel1, hf1⟩ := h1
  obtain ⟨A, c, l, hv, hl, hC, hwf, _⟩ := open_inss hf1
  injection hv with e1 e2 e3
  subst e1; subst e2; subst e3
  have hop : 0 ≤ op ∧ op ≤ 255 := by simpa [Lit.wf, IntKind.min, IntKind.max, IntKind.signed, IntKind.bits] using wop
  obtain ⟨k, rfl⟩ := Int.eq_ofNat_of_zero_le hop.1
  refine (law_AsmSays k (by omega) l (fun x hx => xin (hwf x hx)) a1 c1 W hl hC (lb hL hsh)).mono fun e W' ⟨he, bel⟩ => ?_
  subst he
  exact ⟨_, rfl, _, _, _, [], _, [], hW', trodAll_mk1 (shut_bool Tryd.underlying4 _), trodAll_cons_mk (shut_int Tryd.underlying5 wop) (trodAll_cons_mk (Below.trod laidOut (by kernel_rfl) (of_decide_eq_true (by kernel_rfl)) ⟨fuel1, hf1⟩ bel hlt) trodAll_mk0), rfl, bel.frame _, fun h => by cases h⟩

theorem laid_met0 (os : Os) (args : Array Value) : laidMet Tryd.prog Rows.asmSaysRow.laid ((World.laidAll Tryd.prog os Rows.asmSaysRow.laid).forCall (fun _ _ => 0) ⟨#[], args, []⟩).memory := by
  exact laidMet_laidAll _ (by kernel_rfl) (by kernel_rfl)
theorem reads (os : Os) {H : Type} (enc : TypeId × Value → H) : ∃ places, DataW.whole enc Tryd.prog ((World.laidAll Tryd.prog os Rows.asmSaysRow.laid).forCall (fun _ _ => 0) ⟨#[], #[.int .u8 0, .slice none 0 0], []⟩).memory Tryd.f3.params.toList Rows.asmSaysSpec.vars false #[Value.int .u8 0, .slice none 0 0].toList 8 = some ([.lit (.int .u8 0), .nil], [], places) :=
  ⟨[], by kernel_rfl⟩

set_option maxRecDepth 100000 in
theorem lifted (os : Os) (started : os.Started) (H : Type) (enc : TypeId × Value → H) (F : Stop.Interp) :
    ReturnsInHanded {} Tryd.checked os 3 .any ((OpenSpec.ofChange Rows.asmSaysSpec).preRow enc Tryd.prog Tryd.f3 Rows.asmSaysRow.domain false Rows.asmSaysRow.laid) (((OpenSpec.ofChange Rows.asmSaysSpec).at F).post enc Tryd.prog Tryd.f3 false true false false) := by
  obtain ⟨places, hx⟩ := reads os enc
  refine returnsInHanded_of_row (C := Tryd.checked) (s := OpenSpec.ofChange Rows.asmSaysSpec) own started (by kernel_rfl) Tryd.func3
    (witness_row_at (enc := enc) (C := Tryd.checked) false (World.laidAll Tryd.prog os Rows.asmSaysRow.laid) #[.int .u8 0, .slice none 0 0] (World.laidAll_os _ _ _) (by kernel_rfl) (by kernel_rfl) (by kernel_rfl)
      (OpenSpec.preRow_of_cond 8 hx (by kernel_rfl) (fun k hk => by cases hk) (by kernel_rfl) (laid_met0 os _))) ?_
  intro W base args ds gs before hval hW _ _ _ hL hsh _
  exact contract H enc W base args ds gs before hval hW hL hsh

theorem said : Rows.AsmSaysSaid :=
  OpenClaim.holds_of_cond 3 Tryd.f3 rfl rfl rfl rfl rfl rfl rfl ⟨rfl, rfl, rfl, rfl, rfl⟩ rfl rfl rfl rfl rfl (by kernel_rfl) Tryd.func3 (by kernel_rfl)
    (of_decide_eq_true (by kernel_rfl)) (by unfold Func.isWrapper; first | (rw [if_pos (by decide +kernel)]; kernel_rfl) | (rw [if_neg (by decide +kernel)]; exact ⟨rfl, rfl⟩))
    (fun os started H enc _ F => by rw [OpenClaim.pre_eq_preRow]; exact lifted os started H enc F)

theorem plain (f : FuncId) (fn : Func) (hf : Tryd.pinned.checked.prog.funcNamed "troupe/troupelaw.AsmSays" = some f) (hfn : Tryd.pinned.checked.prog.funcs[f]? = some fn) :
    false = Tryd.pinned.checked.prog.looks [] ∧ ∀ (j : Nat) t, fn.params[j]? = some t → Tryd.pinned.checked.prog.wantsStandIn t = false := by
  obtain rfl : f = 3 := Option.some.inj ((show Tryd.prog.funcNamed "troupe/troupelaw.AsmSays" = some 3 by kernel_rfl).symm.trans hf) |>.symm
  obtain rfl : fn = Tryd.f3 := (Option.some.inj (Tryd.func3.symm.trans hfn)).symm
  refine ⟨by kernel_rfl, fun j t ht => ?_⟩
  rw [Tryd.params3] at ht
  have hm : t ∈ #[5, 22] := Array.mem_of_getElem? ht
  simp only [List.mem_toArray, List.mem_cons, List.not_mem_nil, or_false] at hm
  rcases hm with rfl | rfl
  · exact (show Tryd.prog.wantsStandIn 5 = false by kernel_rfl)
  · exact (show Tryd.prog.wantsStandIn 22 = false by kernel_rfl)

theorem card : Rows.AsmSaysCardSaid :=
  Claim7.holds_tied_plain_at .later [] _ _ _ _ said (fun _ h => by cases h) (by kernel_rfl) (fun _ h => by cases h) asmSays_row_tie rfl ⟨rfl, rfl⟩ (by kernel_rfl) rfl plain (by kernel_rfl)
end Go.Proofs.YteaphfmgcpanmaaDoor.asmSays
namespace Go.Proofs.YteaphfmgcpanmaaDoor
/-- The card of AsmSays, under a short name. -/
theorem asmSays_card : Rows.AsmSaysCardSaid := asmSays.card
#print axioms asmSays_card
end Go.Proofs.YteaphfmgcpanmaaDoor
