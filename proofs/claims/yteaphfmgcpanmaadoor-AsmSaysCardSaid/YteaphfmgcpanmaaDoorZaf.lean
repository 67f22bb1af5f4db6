/- A part of the proof: lemmas and walks that the last text of this claim uses. -/
import Derived.Test.YteaphfmgcpanmaaDoorZae
import Derived.Deep.LoopGhost
import Derived.RegionTactic
import Derived.BigRegion
import Derived.Deep.DeepCutAuto
import Derived.Maps.AppendAt
import Derived.Deep.RegionHeld3
import Derived.Deep.QuietTactic
import Derived.BigQuiet
import Derived.Shelf.LaysM
import Derived.Shelf.Strings.OnBuilder
import Derived.Shelf.Strings.Builder1
import Derived.Shelf.Strings.Builder2
import Derived.Shelf.Strconv.Itoa4
import Derived.Test.YteaphfmgcpanmaaDoorProg
import Derived.Deep.RegionLaw
import Derived.Lib.AppendIntMem
import Derived.Lib.ItoaLen

namespace Go.Proofs.YteaphfmgcpanmaaDoor
set_option linter.unusedVariables false
set_option linter.unusedSimpArgs false
open Go.RowKit Go.Proofs.YteaphfmgcpanmaaDoorW.PrintWords

structure MkAt (w : World) (base g eb lb ce cl : Nat) (A : Option Addr) (n c : Nat) (E L : List Int) : Prop where
  hg : w.heap[g]? = some (.cells #[.slice A n c, .slice (some ⟨eb, 0, none⟩) n ce, .slice (some ⟨lb, 0, none⟩) n cl] 85 (0, 0))
  hE : (Kd.int .i64).R 3 w base (fun k => k = eb) (.slice (some ⟨eb, 0, none⟩) n ce) E
  hL : (Kd.int .i64).R 3 w base (fun k => k = lb) (.slice (some ⟨lb, 0, none⟩) n cl) L
  lE : E.length = n
  lL : L.length = n
  bg : base ≤ g
  be : base ≤ eb
  bl : base ≤ lb
  ge : g ≠ eb
  gl : g ≠ lb
  el : eb ≠ lb
  lt : g < w.heap.size
  lte : eb < w.heap.size
  ltl : lb < w.heap.size
section
variable {w w1 : World} {base g eb lb ce cl n c : Nat} {A : Option Addr} {E L : List Int}
theorem MkAt.kp {S : Nat → Prop} (h : MkAt w base g eb lb ce cl A n c E L) (k : Kp S w w1) (hg : ¬ S g) (he : ¬ S eb) (hl : ¬ S lb) : MkAt w1 base g eb lb ce cl A n c E L :=
  ⟨k.blk h.hg hg, k.R h.hE (fun q e => by subst e; exact he), k.R h.hL (fun q e => by subst e; exact hl), h.lE, h.lL, h.bg, h.be, h.bl, h.ge, h.gl, h.el, Nat.lt_of_lt_of_le h.lt k.size, Nat.lt_of_lt_of_le h.lte k.size, Nat.lt_of_lt_of_le h.ltl k.size⟩
theorem MkAt.below (h : MkAt w base g eb lb ce cl A n c E L) (hb : Below w.heap.size w w1) : MkAt w1 base g eb lb ce cl A n c E L :=
  h.kp (S := fun _ => False) (.of_below hb) id id id
theorem MkAt.alloc (h : MkAt w base g eb lb ce cl A n c E L) (o : Obj) : MkAt (w.alloc o) base g eb lb ce cl A n c E L := h.below ((Below.refl _ _).alloc (Nat.le_refl _) o)
theorem MkAt.drew (h : MkAt w base g eb lb ce cl A n c E L) : MkAt w.drew base g eb lb ce cl A n c E L := h.below (Below.refl _ _).drew
theorem MkAt.putE (h : MkAt w base g eb lb ce cl A n c E L) (i : Nat) (v : Int) : MkAt (w.setCell ⟨eb, i, none⟩ (.int .i64 v)) base g eb lb ce cl A n c (E.set i v) L := by
  have hp := (Kd.R_put (g := eb) (cap := ce) (by rw [h.lE]; exact h.hE) (i : Int) v).1
  rw [Int.toNat_natCast, h.lE] at hp
  exact ⟨blk_far h.hg (p := ⟨eb, i, none⟩) h.ge _, hp, Kd.R_far (p := ⟨eb, i, none⟩) h.hL (fun k e => by subst e; exact fun q => h.el q.symm) _, by rw [List.length_set]; exact h.lE, h.lL, h.bg, h.be, h.bl, h.ge, h.gl, h.el, by simpa using h.lt, by simpa using h.lte, by simpa using h.ltl⟩
theorem MkAt.putL (h : MkAt w base g eb lb ce cl A n c E L) (i : Nat) (v : Int) : MkAt (w.setCell ⟨lb, i, none⟩ (.int .i64 v)) base g eb lb ce cl A n c E (L.set i v) := by
  have hp := (Kd.R_put (g := lb) (cap := cl) (by rw [h.lL]; exact h.hL) (i : Int) v).1
  rw [Int.toNat_natCast, h.lL] at hp
  exact ⟨blk_far h.hg (p := ⟨lb, i, none⟩) h.gl _, Kd.R_far (p := ⟨lb, i, none⟩) h.hE (fun k e => by subst e; exact h.el) _, hp, h.lE, by rw [List.length_set]; exact h.lL, h.bg, h.be, h.bl, h.ge, h.gl, h.el, by simpa using h.lt, by simpa using h.lte, by simpa using h.ltl⟩
theorem MkAt.cellE (h : MkAt w base g eb lb ce cl A n c E L) (i : Nat) (hi : i < n) : w.cell? ⟨eb, i, none⟩ = some (.int .i64 (E.getD i 0)) ∧ w.frozen? ⟨eb, i, none⟩ = false := by
  have := Kd.R_cell (0 : Int) (g := eb) (cap := ce) (by rw [h.lE]; exact h.hE) (i : Int) (by omega) (by rw [h.lE]; omega)
  rw [Int.toNat_natCast] at this
  simpa [rdOf] using this
theorem MkAt.cellL (h : MkAt w base g eb lb ce cl A n c E L) (i : Nat) (hi : i < n) : w.cell? ⟨lb, i, none⟩ = some (.int .i64 (L.getD i 0)) ∧ w.frozen? ⟨lb, i, none⟩ = false := by
  have := Kd.R_cell (0 : Int) (g := lb) (cap := cl) (by rw [h.lL]; exact h.hL) (i : Int) (by omega) (by rw [h.lL]; omega)
  rw [Int.toNat_natCast] at this
  simpa [rdOf] using this
theorem MkAt.caps (h : MkAt w base g eb lb ce cl A n c E L) : n ≤ ce ∧ n ≤ cl := ⟨by have := (Kd.R_reads' h.hE).2.1; omega, by have := (Kd.R_reads' h.hL).2.1; omega⟩
theorem MkAt.c0 (h : MkAt w base g eb lb ce cl A n c E L) : w.cell? ⟨g, 0, none⟩ = some (.slice A n c) ∧ w.cell? ⟨g, 1, none⟩ = some (.slice (some ⟨eb, 0, none⟩) n ce) ∧ w.cell? ⟨g, 2, none⟩ = some (.slice (some ⟨lb, 0, none⟩) n cl) :=
  ⟨by rw [blk_cell h.hg]; rfl, by rw [blk_cell h.hg]; rfl, by rw [blk_cell h.hg]; rfl⟩
end
end Go.Proofs.YteaphfmgcpanmaaDoor

set_option linter.unusedVariables false
set_option linter.unusedSimpArgs false
namespace Trp
theorem SeqR.lens {l : List Ins} {i deep : Nat} {E L E' L' : List Int} {j : Nat} {e : Int} (h : SeqR l i deep E L E' L' j e) : E'.length = E.length ∧ L'.length = L.length := by
  induction h <;> simp_all
theorem getD_set_ne (E : List Int) (i k : Nat) (v : Int) (h : i ≠ k) : (E.set i v).getD k 0 = E.getD k 0 := by
  simp [List.getD_eq_getElem?_getD, List.getElem?_set, h]
theorem SeqR.same {l : List Ins} {i deep : Nat} {E L E' L' : List Int} {j : Nat} {e : Int} (h : SeqR l i deep E L E' L' j e) : e = 0 → i ≤ j ∧ j < l.length ∧ ∀ k, k < i ∨ j ≤ k → E'.getD k 0 = E.getD k 0 ∧ L'.getD k 0 = L.getD k 0 := by
  induction h with
  | short h1 => intro h; exact absurd h (by decide)
  | bad h1 h2 => intro h; exact absurd h h2
  | stop h1 h2 h3 => intro _; exact ⟨Nat.le_refl _, h1, fun _ _ => ⟨rfl, rfl⟩⟩
  | plain h1 h2 h3 h4 _ ih => intro h; obtain ⟨a, b, c⟩ := ih h; exact ⟨by omega, b, fun k hk => c k (by omega)⟩
  | deep => intro h; exact absurd h (by decide)
  | inner _ _ _ _ _ _ he => intro h; exact absurd h he
  | form => intro h; exact absurd h (by decide)
  | block h1 h2 h3 h4 h5 _ h6 _ ih ih' =>
    intro h
    obtain ⟨a, b, c⟩ := ih rfl
    obtain ⟨a', b', c'⟩ := ih' h
    refine ⟨by omega, b', fun k hk => ?_⟩
    obtain ⟨d1, d2⟩ := c' k (by omega)
    obtain ⟨f1, f2⟩ := c k (by omega)
    rw [d1, d2, getD_set_ne _ _ _ _ (by omega), getD_set_ne _ _ _ _ (by omega)]
    exact ⟨f1, f2⟩
  | inner2 _ _ _ _ _ _ _ he => intro h; exact absurd h he
  | form2 => intro h; exact absurd h (by decide)
  | choice h1 h2 h4 h5 _ h6 _ h7 _ ih ih' ih'' =>
    intro h
    obtain ⟨a, b, c⟩ := ih rfl
    obtain ⟨a', b', c'⟩ := ih' rfl
    obtain ⟨a'', b'', c''⟩ := ih'' h
    refine ⟨by omega, b'', fun k hk => ?_⟩
    obtain ⟨d1, d2⟩ := c'' k (by omega)
    obtain ⟨f1, f2⟩ := c' k (by omega)
    obtain ⟨g1, g2⟩ := c k (by omega)
    rw [d1, d2, getD_set_ne _ _ _ _ (by omega), getD_set_ne _ _ _ _ (by omega), getD_set_ne _ _ _ _ (by omega), getD_set_ne _ _ _ _ (by omega), getD_set_ne _ _ _ _ (by omega), f1, f2]
    exact ⟨g1, g2⟩
end Trp

namespace Go.Proofs.YteaphfmgcpanmaaDoor
set_option linter.unusedVariables false
set_option linter.unusedSimpArgs false
open Go.RowKit Go.Proofs.YteaphfmgcpanmaaDoorW.PrintWords

/-- what a call of seq comes to -/
def SeqPost (l : List Trp.Ins) (base g eb lb ce cl : Nat) (A : Option Addr) (c i deep : Nat) (E L : List Int) (w : World) (e : Ending) (w' : World) : Prop :=
  ∃ E' L' j er, e = .returned (.tuple #[.int .i64 ((j : Nat) : Int), .int .i64 er]) ∧ Trp.SeqR l i deep E L E' L' j er ∧ MkAt w' base g eb lb ce cl A l.length c E' L' ∧ Kp (fun k => k = eb ∨ k = lb) w w'
theorem SeqPost.mk {l : List Trp.Ins} {base g eb lb ce cl : Nat} {A : Option Addr} {c i deep : Nat} {E L : List Int} {w w' : World} (E' L' : List Int) (j : Nat) {er j' er' : Int} (h : Trp.SeqR l i deep E L E' L' j er) (hM : MkAt w' base g eb lb ce cl A l.length c E' L') (hK : Kp (fun k => k = eb ∨ k = lb) w w') (hj : j' = j) (he : er' = er) :
    SeqPost l base g eb lb ce cl A c i deep E L w (.returned (.tuple #[.int .i64 j', .int .i64 er'])) w' := by
  subst hj; subst he
  exact ⟨E', L', j, er', rfl, h, hM, hK⟩

/-- what stands at the head of a round -/
structure SeqAt (l : List Trp.Ins) (w0 w : World) (base g eb lb ce cl : Nat) (A : Option Addr) (c i0 deep : Nat) (E0 L0 : List Int) (i : Nat) (E L : List Int) (wr : World) : Prop where
  mA : MkAt wr base g eb lb ce cl A l.length c E L
  kp : Kp (fun k => k = eb ∨ k = lb) w wr
  go : ∀ E' L' j er, Trp.SeqR l i deep E L E' L' j er → Trp.SeqR l i0 deep E0 L0 E' L' j er

def SeqRel (l : List Trp.Ins) (w0 w : World) (base g eb lb ce cl : Nat) (A : Option Addr) (c i0 deep : Nat) (E0 L0 : List Int) (i : Nat) (wr : World) : Prop :=
  ∃ E L, SeqAt l w0 w base g eb lb ce cl A c i0 deep E0 L0 i E L wr

set_option maxHeartbeats 4000000 in
set_option maxRecDepth 100000 in
theorem seq_any (l : List Trp.Ins) (hops : ∀ x ∈ l, 0 ≤ x.op ∧ x.op ≤ 255) (a0 : Addr) (c : Nat) (w0 : World) (hl : l.length ≤ c) (hC : kIns.C w0 (some a0) l.length l) (hG : Gl w0) (g eb lb ce cl : Nat) :
    ∀ (n i deep : Nat) (E L : List Int) (w : World), l.length - i < n → i ≤ l.length → deep ≤ 12 → Below w0.heap.size w0 w → MkAt w w0.heap.size g eb lb ce cl (some a0) l.length c E L →
      Calls Tryd.prog 61 #[.pointer (some ⟨g, 0, none⟩), .int .i64 i, .int .i64 deep] w (SeqPost l w0.heap.size g eb lb ce cl (some a0) c i deep E L w) := by
  have hm := Kd.C_max hC
  have HC := Aside0.mk hC
  have HOps := Aside0.mk hops
  have HG0 := Aside0.mk hG
  clear hC hops hG
  intro n
  induction n with
  | zero => intro i deep E L w h; omega
  | succ n ih =>
    intro i0 deep E0 L0 w hn hi0 hdeep hb0 hM0
    have IH := Aside0.mk ih
    clear ih
    have HB0 := Aside0.mk hb0
    have HM0 := Aside0.mk hM0
    have hsz : w0.heap.size ≤ w.heap.size := hb0.size
    clear hb0 hM0
    go_enter Tryd.func61, Tryd.ntmps61
    go_wp2
    go_loopg [1] (l.length + 1 - i0) (fun k v1 wr => ∃ i : Nat, v1 = .int .i64 i ∧ Aside0 (i ≤ l.length ∧ i0 ≤ i ∧ k = l.length + 1 - i) ∧ Aside0 (SeqRel l w0 w w0.heap.size g eb lb ce cl (some a0) c i0 deep E0 L0 i wr))
    case atStart => exact ⟨i0, rfl, ⟨hi0, Nat.le_refl _, rfl⟩, ⟨_, _, HM0.out, Kp.refl _ _, fun _ _ _ _ h => h⟩⟩
    case round =>
      obtain ⟨i, rfl, HI, ⟨E, L, hS⟩⟩ := hrel
      have hi := HI.out.1
      have hM := hS.mA
      obtain ⟨c0, c1, c2⟩ := hM.c0
      have hg := hM.lt
      have hbr : Below w0.heap.size w0 wr := HB0.out.trans (hS.kp.below (by rintro k (rfl | rfl); exact hM.be; exact hM.bl) hsz)
      have HBR := Aside0.mk hbr
      have HS := Aside0.mk hS
      have hszr := hbr.size
      clear hM hS hbr
      by_cases hlt : i < l.length
      · obtain ⟨ad, A3, c3, hA, e0, e1, e2, e3, hl3, hC3⟩ := at_TIns (Kd.C_below HC.out HBR.out) (i : Int) (by omega) (by omega)
        injection hA with hA
        subst hA
        obtain ⟨x, hx⟩ : ∃ x, rd_TIns l (i : Int) = x := ⟨_, rfl⟩
        simp only [hx, Int.toNat_natCast] at e0 e1 e2 e3 hl3 hC3
        rw [rdIns_eq] at hx
        have hxo := HOps.out x (by rw [← hx, List.getD_eq_getElem?_getD, List.getElem?_eq_getElem hlt]; exact List.getElem_mem hlt)
        have HX := Aside0.mk hx
        have HC3 := Aside0.mk hC3
        have HGr := Aside0.mk (HG0.out.below HBR.out)
        clear hx hC3
        cases hz : (Trp.insCheck x != 0) with
        | true =>
          go_wp2_with (go_at_call 62; refine (ref_InsCheck x hxo.1 hxo.2 A3 c3 _ (HGr.out.below ((Below.refl _ _).alloc (Nat.le_refl _) _)) hl3 (Kd.C_alloc HC3.out _)).mono ?_; rintro e w2 ⟨rfl, hb2⟩; have f0 := below_new hb2 0; have hM2 := Aside0.mk ((HS.out.mA.alloc _).below hb2); have hK2 : Aside0 (Kp (fun k => k = eb ∨ k = lb) wr w2) := ⟨((Kp.refl _ _).alloc _).step hb2⟩; obtain ⟨d0, d1, d2⟩ := hM2.out.c0; have hz2 := hb2.size; clear hb2; simp at f0 hz2)
          go_ret2
          exact SeqPost.mk E L 0 (HS.out.go _ _ _ _ (.bad hlt (by rw [HX.out]; simpa using hz))) hM2.out (HS.out.kp.trans hK2.out) rfl (by rw [HX.out])
        | false =>
          have hz0 : Trp.insCheck (l.getD i Trp.zIns) = 0 := by rw [HX.out]; simpa using hz
          have HZ := Aside0.mk hz0
          clear hz0
          by_cases o5 : x.op = 5
          · have b5 : (x.op == 5) = true := by simpa using o5
            have O := Aside0.mk o5
            clear o5
            go_wp2_with (go_at_call 62; refine (ref_InsCheck x hxo.1 hxo.2 A3 c3 _ (HGr.out.below ((Below.refl _ _).alloc (Nat.le_refl _) _)) hl3 (Kd.C_alloc HC3.out _)).mono ?_; rintro e w2 ⟨rfl, hb2⟩; have f0 := below_new hb2 0; have hM2 := Aside0.mk ((HS.out.mA.alloc _).below hb2); have hK2 : Aside0 (Kp (fun k => k = eb ∨ k = lb) wr w2) := ⟨((Kp.refl _ _).alloc _).step hb2⟩; obtain ⟨d0, d1, d2⟩ := hM2.out.c0; have hz2 := hb2.size; clear hb2; simp at f0 hz2)
            go_ret2
            exact SeqPost.mk E L i (HS.out.go _ _ _ _ (.stop hlt HZ.out (by rw [HX.out]; exact .inl O.out))) hM2.out (HS.out.kp.trans hK2.out) rfl rfl
          have b5 : (x.op == 5) = false := by simpa using o5
          by_cases o11 : x.op = 11
          · have b11 : (x.op == 11) = true := by simpa using o11
            have O := Aside0.mk o11
            clear o11 o5
            go_wp2_with (go_at_call 62; refine (ref_InsCheck x hxo.1 hxo.2 A3 c3 _ (HGr.out.below ((Below.refl _ _).alloc (Nat.le_refl _) _)) hl3 (Kd.C_alloc HC3.out _)).mono ?_; rintro e w2 ⟨rfl, hb2⟩; have f0 := below_new hb2 0; have hM2 := Aside0.mk ((HS.out.mA.alloc _).below hb2); have hK2 : Aside0 (Kp (fun k => k = eb ∨ k = lb) wr w2) := ⟨((Kp.refl _ _).alloc _).step hb2⟩; obtain ⟨d0, d1, d2⟩ := hM2.out.c0; have hz2 := hb2.size; clear hb2; simp at f0 hz2)
            go_ret2
            exact SeqPost.mk E L i (HS.out.go _ _ _ _ (.stop hlt HZ.out (by rw [HX.out]; exact .inr O.out))) hM2.out (HS.out.kp.trans hK2.out) rfl rfl
          have b11 : (x.op == 11) = false := by simpa using o11
          have HN : Aside0 (¬ ((l.getD i Trp.zIns).op = 5 ∨ (l.getD i Trp.zIns).op = 11)) := ⟨by rw [HX.out]; omega⟩
          clear o5 o11
          by_cases o2 : x.op < 2
          · go_wp2_with (go_at_call 62; refine (ref_InsCheck x hxo.1 hxo.2 A3 c3 _ (HGr.out.below ((Below.refl _ _).alloc (Nat.le_refl _) _)) hl3 (Kd.C_alloc HC3.out _)).mono ?_; rintro e w2 ⟨rfl, hb2⟩; have f0 := below_new hb2 0; have hM2 := Aside0.mk ((HS.out.mA.alloc _).below hb2); have hK2 : Aside0 (Kp (fun k => k = eb ∨ k = lb) wr w2) := ⟨((Kp.refl _ _).alloc _).step hb2⟩; obtain ⟨d0, d1, d2⟩ := hM2.out.c0; have hz2 := hb2.size; clear hb2; simp at f0 hz2)
            go_roundg (l.length + 1 - (i + 1))
            case measure => have := HI.out; omega
            case rel => exact ⟨i + 1, by go_num, ⟨by omega, by have := HI.out; omega, rfl⟩, ⟨E, L, hM2.out, HS.out.kp.trans hK2.out, fun _ _ _ _ q => HS.out.go _ _ _ _ (.plain hlt HZ.out HN.out (by rw [HX.out]; exact .inl o2) q)⟩⟩
          by_cases o4 : 4 < x.op
          · go_wp2_with (go_at_call 62; refine (ref_InsCheck x hxo.1 hxo.2 A3 c3 _ (HGr.out.below ((Below.refl _ _).alloc (Nat.le_refl _) _)) hl3 (Kd.C_alloc HC3.out _)).mono ?_; rintro e w2 ⟨rfl, hb2⟩; have f0 := below_new hb2 0; have hM2 := Aside0.mk ((HS.out.mA.alloc _).below hb2); have hK2 : Aside0 (Kp (fun k => k = eb ∨ k = lb) wr w2) := ⟨((Kp.refl _ _).alloc _).step hb2⟩; obtain ⟨d0, d1, d2⟩ := hM2.out.c0; have hz2 := hb2.size; clear hb2; simp at f0 hz2)
            go_roundg (l.length + 1 - (i + 1))
            case measure => have := HI.out; omega
            case rel => exact ⟨i + 1, by go_num, ⟨by omega, by have := HI.out; omega, rfl⟩, ⟨E, L, hM2.out, HS.out.kp.trans hK2.out, fun _ _ _ _ q => HS.out.go _ _ _ _ (.plain hlt HZ.out HN.out (by rw [HX.out]; exact .inr o4) q)⟩⟩
          have H2 : Aside0 (2 ≤ (l.getD i Trp.zIns).op ∧ (l.getD i Trp.zIns).op ≤ 4) := ⟨by rw [HX.out]; omega⟩
          by_cases od : deep = 12
          · subst od
            go_wp2_with (go_at_call 62; refine (ref_InsCheck x hxo.1 hxo.2 A3 c3 _ (HGr.out.below ((Below.refl _ _).alloc (Nat.le_refl _) _)) hl3 (Kd.C_alloc HC3.out _)).mono ?_; rintro e w2 ⟨rfl, hb2⟩; have f0 := below_new hb2 0; have hM2 := Aside0.mk ((HS.out.mA.alloc _).below hb2); have hK2 : Aside0 (Kp (fun k => k = eb ∨ k = lb) wr w2) := ⟨((Kp.refl _ _).alloc _).step hb2⟩; obtain ⟨d0, d1, d2⟩ := hM2.out.c0; have hz2 := hb2.size; clear hb2; simp at f0 hz2)
            go_ret2
            exact SeqPost.mk E L 0 (HS.out.go _ _ _ _ (.deep hlt HZ.out H2.out.1 H2.out.2 rfl)) hM2.out (HS.out.kp.trans hK2.out) rfl rfl
          have bd : ((deep : Int) == 12) = false := by simp; omega
          have OD := Aside0.mk od
          clear od
          go_wp2_with (go_at_call 62; refine (ref_InsCheck x hxo.1 hxo.2 A3 c3 _ (HGr.out.below ((Below.refl _ _).alloc (Nat.le_refl _) _)) hl3 (Kd.C_alloc HC3.out _)).mono ?_; rintro e w2 ⟨rfl, hb2⟩; have f0 := below_new hb2 0; have hM2 := Aside0.mk ((HS.out.mA.alloc _).below hb2); have hK2 : Aside0 (Kp (fun k => k = eb ∨ k = lb) wr w2) := ⟨((Kp.refl _ _).alloc _).step hb2⟩; obtain ⟨d0, d1, d2⟩ := hM2.out.c0; have hz2 := hb2.size; clear hb2; simp at f0 hz2)
          have hIH := IH.out (i + 1) (deep + 1) E L w2 (by have := HI.out; omega) (by omega) (by have := OD.out; omega) (HBR.out.trans (hK2.out.below (by rintro k (rfl | rfl); exact HS.out.mA.be; exact HS.out.mA.bl) hszr)) hM2.out
          rw [show ((i + 1 : Nat) : Int) = (i : Int) + 1 by omega, show ((deep + 1 : Nat) : Int) = (deep : Int) + 1 by omega] at hIH
          go_at_call 61
          refine hIH.mono ?_
          clear hIH
          rintro e w3 ⟨E1, L1, j, er, rfl, hS1, hM3, hK3⟩
          have he1 := HS.out.mA.lte
          have he2 := HS.out.mA.ltl
          have f0' := (hK3.cell (p := ⟨wr.heap.size, 0, none⟩) (by show wr.heap.size < w2.heap.size; omega) (by rintro (h | h) <;> simp at h <;> omega)).trans f0
          obtain ⟨d0', d1', d2'⟩ := hM3.c0
          have HB3 : Aside0 (Below w0.heap.size w0 w3) := ⟨HBR.out.trans ((hK2.out.trans hK3).below (by rintro k (rfl | rfl); exact HS.out.mA.be; exact HS.out.mA.bl) hszr)⟩
          have HK3 : Aside0 (Kp (fun k => k = eb ∨ k = lb) w w3) := ⟨(HS.out.kp.trans hK2.out).trans hK3⟩
          have HM3 := Aside0.mk hM3
          have HS1 := Aside0.mk hS1
          have hz3 := hK3.size
          clear hM3 hK3 hS1 he1 he2 f0 d0 d1 d2 e0 e1 e2 e3 c0 c1 c2
          by_cases her : er = 0
          · subst her
            obtain ⟨hj0, hj1, -⟩ := HS1.out.same rfl
            obtain ⟨ad, A4, c4, hA, q0, -, -, -, -, -⟩ := at_TIns (Kd.C_below HC.out HB3.out) (j : Int) (by omega) (by omega)
            injection hA with hA
            subst hA
            rw [rdIns_eq] at q0
            simp only [Int.toNat_natCast] at q0
            obtain ⟨y, hy⟩ : ∃ y, (l.getD j Trp.zIns).op = y := ⟨_, rfl⟩
            rw [hy] at q0
            have HY := Aside0.mk hy
            clear hy
            by_cases y5 : y = 5
            · have y5' : (y == 5) = true := by simpa using y5
              have HY5 : Aside0 ((l.getD j Trp.zIns).op = 5) := ⟨HY.out.trans y5⟩
              clear y5
              by_cases x4 : x.op = 4
              · have x4' : (x.op == 4) = true := by simpa using x4
                have HX4 : Aside0 ((l.getD i Trp.zIns).op = 4) := ⟨by rw [HX.out]; exact x4⟩
                clear x4
                have hIH2 := IH.out (j + 1) (deep + 1) E1 L1 w3 (by have := HI.out; omega) (by omega) (by have := OD.out; omega) HB3.out HM3.out
                rw [show ((j + 1 : Nat) : Int) = (j : Int) + 1 by omega, show ((deep + 1 : Nat) : Int) = (deep : Int) + 1 by omega] at hIH2
                go_wp2_with (fail)
                go_at_call 61
                refine hIH2.mono ?_
                clear hIH2
                rintro e w4 ⟨E2, L2, j2, e2, rfl, hS2, hM4, hK4⟩
                obtain ⟨k0, k1, k2⟩ := hM4.c0
                have HK4 : Aside0 (Kp (fun k => k = eb ∨ k = lb) w w4) := ⟨HK3.out.trans hK4⟩
                have HB4 : Aside0 (Below w0.heap.size w0 w4) := ⟨HB3.out.trans (hK4.below (by rintro k (rfl | rfl); exact HM3.out.be; exact HM3.out.bl) HB3.out.size)⟩
                have HM4 := Aside0.mk hM4
                have HS2 := Aside0.mk hS2
                have hz4 := hK4.size
                clear hM4 hK4 hS2 d0' d1' d2' q0 f0'
                by_cases he2 : e2 = 0
                · subst he2
                  obtain ⟨hj20, hj21, -⟩ := HS2.out.same rfl
                  obtain ⟨ad, A5, c5, hA, q2, -, -, -, -, -⟩ := at_TIns (Kd.C_below HC.out HB4.out) (j2 : Int) (by omega) (by omega)
                  injection hA with hA
                  subst hA
                  rw [rdIns_eq] at q2
                  simp only [Int.toNat_natCast] at q2
                  obtain ⟨y2, hy2⟩ : ∃ y2, (l.getD j2 Trp.zIns).op = y2 := ⟨_, rfl⟩
                  rw [hy2] at q2
                  have HY2 := Aside0.mk hy2
                  clear hy2
                  by_cases z5 : y2 = 5
                  · have z5' : (y2 == 5) = true := by simpa using z5
                    have HZ5 : Aside0 ((l.getD j2 Trp.zIns).op = 5) := ⟨HY2.out.trans z5⟩
                    clear z5
                    go_wp2_with (fail)
                    go_ret2
                    exact SeqPost.mk E2 L2 0 (HS.out.go _ _ _ _ (.form2 hlt HZ.out HX4.out OD.out HS1.out HY5.out HS2.out HZ5.out)) HM4.out HK4.out rfl rfl
                  · have z5' : (y2 == 5) = false := by simpa using z5
                    have HZ5 : Aside0 ((l.getD j2 Trp.zIns).op ≠ 5) := ⟨by rw [HY2.out]; exact z5⟩
                    clear z5
                    obtain ⟨p1, p2⟩ := HM4.out.cellE i hlt
                    obtain ⟨p3, p4⟩ := HM4.out.cellE j2 hj21
                    have ge : ¬ g = eb := HM4.out.ge
                    have gl : ¬ g = lb := HM4.out.gl
                    have el : ¬ eb = lb := HM4.out.el
                    have ij : ¬ i = j2 := by omega
                    have ji : ¬ j2 = i := by omega
                    have hjm : j2 ≤ 9223372036854775807 := by omega
                    have hgl4 := HM4.out.lt
                    have hle4 := HM4.out.lte
                    go_upto_region 21 with (fail)
                    go_cut [] (fun wx => Aside0 (MkAt wx w0.heap.size g eb lb ce cl (some a0) l.length c ((E2.set i j2).set j2 i) L2 ∧ Kp (fun k => k = eb ∨ k = lb) w wx))
                    case first =>
                      go_region
                      all_goals
                        go_wp2_with (fail)
                        go_meet
                        case rel => exact ⟨((HM4.out.putE i j2).putE j2 i).drew, ((HK4.out.setCell (.inl (.inl rfl)) _).setCell (.inl (.inl rfl)) _).drew⟩
                    case rest =>
                      have HM5 := Aside0.mk hcut.out.1
                      have HK5 := Aside0.mk hcut.out.2
                      clear hcut k0 k1 k2 p1 p2 p3 p4 q2
                      obtain ⟨k0, k1, k2⟩ := HM5.out.c0
                      obtain ⟨p1, p2⟩ := HM5.out.cellL i hlt
                      obtain ⟨p3, p4⟩ := HM5.out.cellL j hj1
                      obtain ⟨p5, p6⟩ := HM5.out.cellE j hj1
                      have ij' : ¬ i = j := by omega
                      have ji' : ¬ j = i := by omega
                      have le : ¬ lb = eb := fun e => el e.symm
                      have hjm1 : j ≤ 9223372036854775807 := by omega
                      have hgl5 := HM5.out.lt
                      have hle5 := HM5.out.lte
                      have hll5 := HM5.out.ltl
                      have hj0' : (0 : Int) ≤ (j : Int) := by omega
                      go_wp2_with (fail)
                      go_region
                      all_goals
                        go_wp2_with (fail)
                        go_roundg (l.length + 1 - (j2 + 1))
                        case measure => have := HI.out; omega
                        case rel => exact ⟨j2 + 1, by go_num, ⟨by omega, by have := HI.out; omega, rfl⟩, ⟨_, _, (((HM5.out.putL i j).putL j i).putE j j2).drew, (((HK5.out.setCell (.inl (.inr rfl)) _).setCell (.inl (.inr rfl)) _).setCell (.inl (.inl rfl)) _).drew, fun _ _ _ _ q => HS.out.go _ _ _ _ (.choice hlt HZ.out HX4.out OD.out HS1.out HY5.out HS2.out HZ5.out q)⟩⟩
                · have her1 : (e2 == 0) = false := by simpa using he2
                  have her2 : (e2 != 0) = true := by simpa using he2
                  have HE := Aside0.mk he2
                  clear he2
                  go_wp2_with (fail)
                  go_ret2
                  exact SeqPost.mk E2 L2 0 (HS.out.go _ _ _ _ (.inner2 hlt HZ.out HX4.out OD.out HS1.out HY5.out HS2.out HE.out)) HM4.out HK4.out rfl rfl
              · have x4' : (x.op == 4) = false := by simpa using x4
                have HX4 : Aside0 ((l.getD i Trp.zIns).op ≠ 4) := ⟨by rw [HX.out]; exact x4⟩
                clear x4
                go_wp2_with (fail)
                go_ret2
                exact SeqPost.mk E1 L1 0 (HS.out.go _ _ _ _ (.form hlt HZ.out H2.out.1 H2.out.2 OD.out HS1.out HY5.out HX4.out)) HM3.out HK3.out rfl rfl
            · have y5' : (y == 5) = false := by simpa using y5
              have HY5 : Aside0 ((l.getD j Trp.zIns).op ≠ 5) := ⟨by rw [HY.out]; exact y5⟩
              clear y5
              go_wp2_with (fail)
              obtain ⟨p1, p2⟩ := HM3.out.cellE i hlt
              obtain ⟨p3, p4⟩ := HM3.out.cellE j hj1
              have ge : ¬ g = eb := HM3.out.ge
              have gl : ¬ g = lb := HM3.out.gl
              have el : ¬ eb = lb := HM3.out.el
              have ij : ¬ i = j := by omega
              have ji : ¬ j = i := by omega
              have hjm : j ≤ 9223372036854775807 := by omega
              have hgl3 := HM3.out.lt
              have hle3 := HM3.out.lte
              go_region
              all_goals
                go_wp2_with (fail)
                go_roundg (l.length + 1 - (j + 1))
                case measure => have := HI.out; omega
                case rel => exact ⟨j + 1, by go_num, ⟨by omega, by have := HI.out; omega, rfl⟩, ⟨_, _, ((HM3.out.putE i j).putE j i).drew, ((HK3.out.setCell (.inl (.inl rfl)) _).setCell (.inl (.inl rfl)) _).drew, fun _ _ _ _ q => HS.out.go _ _ _ _ (.block hlt HZ.out H2.out.1 H2.out.2 OD.out HS1.out HY5.out q)⟩⟩
          · have her1 : (er == 0) = false := by simpa using her
            have her2 : (er != 0) = true := by simpa using her
            have HE := Aside0.mk her
            clear her
            go_wp2_with (fail)
            go_ret2
            exact SeqPost.mk E1 L1 0 (HS.out.go _ _ _ _ (.inner hlt HZ.out H2.out.1 H2.out.2 OD.out HS1.out HE.out)) HM3.out HK3.out rfl rfl
      · obtain rfl : i = l.length := by omega
        clear hlt
        go_wp2
        go_ret2
        exact SeqPost.mk E L 0 (HS.out.go _ _ _ _ (.short (Nat.le_refl _))) HS.out.mA HS.out.kp rfl rfl
end Go.Proofs.YteaphfmgcpanmaaDoor

namespace Go.Proofs.YteaphfmgcpanmaaDoor
set_option linter.unusedVariables false
set_option linter.unusedSimpArgs false
open Go.RowKit Go.Proofs.YteaphfmgcpanmaaDoorW.PrintWords

/-- append(v, u) with u's box anywhere, as one step of a region that draws -/
theorem appN_step {P : Program} {ops : Array Oper} {o : Oper} {a : Act} {Q : Exit → Act → World → Prop} {Kc : Act → World → Prop} {E : Prop} {W : World} {base : Nat} (hw : Region.wanted o (yielded ops a.tmps) = true) (s x : Operand) (t e : TypeId) (z : Value) (bytes : Nat)
    (ho : o.op = .call { callee := .builtin .append, args := #[s, x], argTypes := #[t, t] })
    (ht : P.underlying t = some (.slice e)) (hinfo : (P.info? e).map (fun i => (i.zero, i.size, i.bytes)) = some (some z, 1, bytes)) (hz : z.cells.size = 1) (hb0 : 0 < bytes)
    {v : Value} {n : Nat} {xs : List Value} (hs : a.eval s = v) (hown : W.ownsRow base e 1 v n xs) (ad : Addr) (hx : a.eval x = .slice (some ad) 1 1) (u : Value) (hu : W.cell? ad = some u) (h1 : u.oneCell' = true)
    (hbase : base ≤ W.heap.size) (hl : (n + 1) * bytes ≤ 140737488355328)
    (h : ∀ v1 w1, w1.ownsRow base e 1 v1 (n + 1) (xs ++ [u]) → W.grownBy w1 v.ownBlock → (v1.ownBlock = v.ownBlock ∨ ∃ b, v1.ownBlock = some b ∧ W.heap.size ≤ b) → Kc (a.put o.dst v1) w1) :
    if Region.wanted o (yielded ops a.tmps) = true then Oper.wp P o a W Kc Q else E := by
  obtain ⟨i0, hi, hzz⟩ := Option.map_eq_some_iff.1 hinfo
  simp only [Prod.mk.injEq] at hzz
  obtain ⟨hz0, hz1, hz2⟩ := hzz
  have hlen : n + 1 ≤ 140737488355328 := Nat.le_trans (Nat.le_mul_of_pos_right _ hb0) hl
  rw [if_pos hw]
  obtain ⟨v1, w1, hr, hown1, hg, _, hat⟩ := run_append_own_at (P := P) W base t o.type e i0 z 1 bytes ht hi hz0 hz1 hz2 hz (by decide) v n xs hown ad 1 1 [u] rfl
    (by intro j u' hj; cases j with
        | zero => have : u = u' := by simpa using hj
                  subst this; rw [show ad.add 0 = ad from by unfold Addr.add; simp]; exact hu
        | succ j => simp at hj) (by simpa using h1) (by simp only [maxLen]; omega) hl hbase
  unfold Oper.wp execOp
  simp only [ho, resolve, invoke, builtin, Sem.run_bind, Sem.run_pure, Result.andThen_ok, List.map_toArray, List.map_cons, List.map_nil, hs, hx, hr]
  refine h v1 w1 hown1 hg ?_
  rcases hat with hat | hat
  · exact .inl hat
  · exact .inr ⟨_, hat, Nat.le_refl _⟩

/-- the two rows while they grow, the struct's block beside them -/
structure Two (w0 W : World) (base g : Nat) (cs : Array Value) (vE vL : Value) (a b : Nat) : Prop where
  bw : Below base w0 W
  bg : base ≤ g
  hg : W.heap[g]? = some (.cells cs 85 (0, 0))
  oE : W.ownsRow base 3 1 vE a (List.replicate a (Value.int .i64 (-1)))
  oL : W.ownsRow base 3 1 vL b (List.replicate b (Value.int .i64 (-1)))
  ge : vE.ownBlock ≠ some g
  gl : vL.ownBlock ≠ some g
  el : ∀ k, vE.ownBlock = some k → vL.ownBlock ≠ some k
  bs : base ≤ W.heap.size
theorem Two.below {w0 W W1 : World} {base g : Nat} {cs : Array Value} {vE vL : Value} {a b : Nat} (h : Two w0 W base g cs vE vL a b) (hb : Below W.heap.size W W1) : Two w0 W1 base g cs vE vL a b :=
  ⟨below_then h.bw h.bs hb, h.bg, (hb.block g (blk_lt h.hg)).trans h.hg, own_move h.oE (fun k hk => hb.block k (own_lt h.oE k hk)), own_move h.oL (fun k hk => hb.block k (own_lt h.oL k hk)), h.ge, h.gl, h.el, Nat.le_trans h.bs hb.size⟩
theorem Two.alloc {w0 W : World} {base g : Nat} {cs : Array Value} {vE vL : Value} {a b : Nat} (h : Two w0 W base g cs vE vL a b) (o : Obj) : Two w0 (W.alloc o) base g cs vE vL a b := h.below ((Below.refl _ _).alloc (Nat.le_refl _) o)
theorem Two.drew {w0 W : World} {base g : Nat} {cs : Array Value} {vE vL : Value} {a b : Nat} (h : Two w0 W base g cs vE vL a b) : Two w0 W.drew base g cs vE vL a b := h.below (Below.refl _ _).drew
theorem Two.growE {w0 W w1 : World} {base g : Nat} {cs : Array Value} {vE vL v1 : Value} {a b : Nat} (h : Two w0 W base g cs vE vL a b) (hown : w1.ownsRow base 3 1 v1 (a + 1) (List.replicate a (Value.int .i64 (-1)) ++ [Value.int .i64 (-1)])) (hg : W.grownBy w1 vE.ownBlock) (hat : v1.ownBlock = vE.ownBlock ∨ ∃ b, v1.ownBlock = some b ∧ W.heap.size ≤ b) :
    Two w0 w1 base g cs v1 vL (a + 1) b := by
  have hlt := blk_lt h.hg
  refine ⟨h.bw.grown hg h.bs (own_base h.oE), h.bg, blk_grown h.hg hg (fun e => h.ge e.symm), by rw [List.replicate_succ']; exact hown, own_move h.oL (fun k hk => hg.block k (own_lt h.oL k hk) (fun e => h.el k e.symm hk)), ?_, h.gl, ?_, Nat.le_trans h.bs hg.size⟩
  · rcases hat with e | ⟨q, e, hq⟩ <;> rw [e]
    · exact h.ge
    · intro e2; injection e2 with e2; omega
  · intro k hk hk2
    rcases hat with e | ⟨q, e, hq⟩ <;> rw [e] at hk
    · exact h.el k hk hk2
    · injection hk with hk; have := own_lt h.oL k hk2; omega
theorem Two.growL {w0 W w1 : World} {base g : Nat} {cs : Array Value} {vE vL v1 : Value} {a b : Nat} (h : Two w0 W base g cs vE vL a b) (hown : w1.ownsRow base 3 1 v1 (b + 1) (List.replicate b (Value.int .i64 (-1)) ++ [Value.int .i64 (-1)])) (hg : W.grownBy w1 vL.ownBlock) (hat : v1.ownBlock = vL.ownBlock ∨ ∃ b, v1.ownBlock = some b ∧ W.heap.size ≤ b) :
    Two w0 w1 base g cs vE v1 a (b + 1) := by
  have hlt := blk_lt h.hg
  refine ⟨h.bw.grown hg h.bs (own_base h.oL), h.bg, blk_grown h.hg hg (fun e => h.gl e.symm), own_move h.oE (fun k hk => hg.block k (own_lt h.oE k hk) (fun e => h.el k hk e.symm)), by rw [List.replicate_succ']; exact hown, h.ge, ?_, ?_, Nat.le_trans h.bs hg.size⟩
  · rcases hat with e | ⟨q, e, hq⟩ <;> rw [e]
    · exact h.gl
    · intro e2; injection e2 with e2; omega
  · intro k hk hk2
    rcases hat with e | ⟨q, e, hq⟩ <;> rw [e] at hk2
    · exact h.el k hk hk2
    · injection hk2 with hk2; have := own_lt h.oE k hk; omega

theorem buildInt (x : Int) (W : World) : (Instr.buildSlice 66 1 #[(0, .int .i64 x)]).run Tryd.prog W = .ok (.slice (some ⟨W.heap.size, 0, none⟩) 1 1) (W.alloc (.cells #[.int .i64 x] 3)) := by
  obtain ⟨ie, hie, hz⟩ := Option.map_eq_some_iff.1 infoInt
  simp only [Prod.mk.injEq] at hz
  obtain ⟨hz0, hz1, _⟩ := hz
  refine run_buildSlice W _ _ 1 _ _ ie _ Tryd.underlying66 hie hz0 (by rw [hz1]; omega) (by rw [hz1]; omega) ?_
  rw [show (#[(0, Value.int .i64 x)] : Array (Nat × Value)).toList = ((([x] : List Int).map (Value.int .i64)).zipIdx 0).map fun x => (x.2, x.1) from rfl, hz1]
  exact Great.fill_flat _ _ (fun v hv => by obtain ⟨n, _, rfl⟩ := List.mem_map.1 hv; rfl) (by simp)
section
variable {ops : Array Oper} {o : Oper} {act : Act} {Q : Exit → Act → World → Prop} {Kc : Act → World → Prop} {E : Prop} {w0 W : World} {base g : Nat} {cs : Array Value} {vE vL : Value} {a b : Nat}
theorem stepE (hw : Region.wanted o (yielded ops act.tmps) = true) (s x : Operand) (ho : o.op = .call { callee := .builtin .append, args := #[s, x], argTypes := #[66, 66] })
    (hs : act.eval s = vE) (q : Nat) (hx : act.eval x = .slice (some ⟨q, 0, none⟩) 1 1) (hT : Two w0 W base g cs vE vL a b) (hu : W.cell? ⟨q, 0, none⟩ = some (.int .i64 (-1))) (hl : a ≤ 1000)
    (h : ∀ A1 c1 w1, Aside0 (Two w0 w1 base g cs (.slice A1 (a + 1) c1) vL (a + 1) b) → Aside0 (W.grownBy w1 vE.ownBlock) → Kc (act.put o.dst (.slice A1 (a + 1) c1)) w1) : if Region.wanted o (yielded ops act.tmps) = true then Oper.wp Tryd.prog o act W Kc Q else E :=
  appN_step hw s x 66 3 (.int .i64 0) 8 ho Tryd.underlying66 infoInt rfl (by decide) hs hT.oE ⟨q, 0, none⟩ hx _ hu rfl hT.bs (by omega) fun v1 w1 h1 h2 h3 => by
    obtain ⟨A1, c1, rfl⟩ := own_slice h1
    exact h A1 c1 w1 ⟨hT.growE h1 h2 h3⟩ ⟨h2⟩
theorem stepL (hw : Region.wanted o (yielded ops act.tmps) = true) (s x : Operand) (ho : o.op = .call { callee := .builtin .append, args := #[s, x], argTypes := #[66, 66] })
    (hs : act.eval s = vL) (q : Nat) (hx : act.eval x = .slice (some ⟨q, 0, none⟩) 1 1) (hT : Two w0 W base g cs vE vL a b) (hu : W.cell? ⟨q, 0, none⟩ = some (.int .i64 (-1))) (hl : b ≤ 1000)
    (h : ∀ A1 c1 w1, Aside0 (Two w0 w1 base g cs vE (.slice A1 (b + 1) c1) a (b + 1)) → Aside0 (W.grownBy w1 vL.ownBlock) → Kc (act.put o.dst (.slice A1 (b + 1) c1)) w1) : if Region.wanted o (yielded ops act.tmps) = true then Oper.wp Tryd.prog o act W Kc Q else E :=
  appN_step hw s x 66 3 (.int .i64 0) 8 ho Tryd.underlying66 infoInt rfl (by decide) hs hT.oL ⟨q, 0, none⟩ hx _ hu rfl hT.bs (by omega) fun v1 w1 h1 h2 h3 => by
    obtain ⟨A1, c1, rfl⟩ := own_slice h1
    exact h A1 c1 w1 ⟨hT.growL h1 h2 h3⟩ ⟨h2⟩
end
theorem Two.c {w0 W : World} {base g : Nat} {A : Option Addr} {n c : Nat} {uE uL vE vL : Value} {a b : Nat} (h : Two w0 W base g #[.slice A n c, uE, uL] vE vL a b) :
    W.cell? ⟨g, 0, none⟩ = some (.slice A n c) ∧ W.cell? ⟨g, 1, none⟩ = some uE ∧ W.cell? ⟨g, 2, none⟩ = some uL ∧ W.frozen? ⟨g, 1, none⟩ = false ∧ W.frozen? ⟨g, 2, none⟩ = false ∧ g < W.heap.size :=
  ⟨by rw [blk_cell h.hg]; rfl, by rw [blk_cell h.hg]; rfl, by rw [blk_cell h.hg]; rfl, blk_frozen h.hg 1, blk_frozen h.hg 2, blk_lt h.hg⟩
theorem Two.put {w0 W : World} {base g : Nat} {cs : Array Value} {vE vL : Value} {a b : Nat} (h : Two w0 W base g cs vE vL a b) (i : Nat) (u : Value) : Two w0 (W.setCell ⟨g, i, none⟩ u) base g (cs.setIfInBounds i u) vE vL a b :=
  ⟨h.bw.setCell h.bg u, h.bg, blk_set h.hg i u, own_setCell h.oE (fun e => h.ge e.symm) u, own_setCell h.oL (fun e => h.gl e.symm) u, h.ge, h.gl, h.el, by simpa using h.bs⟩
theorem Two.mk_at {w0 W : World} {base g n c : Nat} {A : Option Addr} {vE vL : Value} (h : Two w0 W base g #[.slice A n c, vE, vL] vE vL n n) (hn : 0 < n) :
    ∃ eb lb ce cl, MkAt W base g eb lb ce cl A n c (List.replicate n (-1)) (List.replicate n (-1)) := by
  have en : encs (Value.int .i64) (List.replicate n (-1)) = List.replicate n (Value.int .i64 (-1)) := by simp [encs]
  have hE : (Kd.int .i64).R 3 W base (fun k => vE.ownBlock = some k) vE (List.replicate n (-1)) := Kd.R_of_own (by rw [en, List.length_replicate]; exact h.oE) (fun k hk => hk)
  have hL : (Kd.int .i64).R 3 W base (fun k => vL.ownBlock = some k) vL (List.replicate n (-1)) := Kd.R_of_own (by rw [en, List.length_replicate]; exact h.oL) (fun k hk => hk)
  obtain ⟨eb, ce, rfl, be, lte, _⟩ := Kd.R_form hE (by simpa using hn)
  obtain ⟨lb, cl, rfl, bl, ltl, _⟩ := Kd.R_form hL (by simpa using hn)
  rw [List.length_replicate] at hE hL h
  have hg := h.hg
  refine ⟨eb, lb, ce, cl, h.hg, Kd.R_mono hE (fun k hk => by simpa [Value.ownBlock, eq_comm] using hk), Kd.R_mono hL (fun k hk => by simpa [Value.ownBlock, eq_comm] using hk), by simp, by simp, h.bg, be, bl, ?_, ?_, ?_, blk_lt h.hg, lte, ltl⟩
  · intro e; exact h.ge (by simp [Value.ownBlock, e])
  · intro e; exact h.gl (by simp [Value.ownBlock, e])
  · intro e; exact h.el eb (by simp [Value.ownBlock]) (by simp [Value.ownBlock, e])

set_option maxRecDepth 100000 in
theorem seq_nil (g c : Nat) (A : Option Addr) (w : World) (hc : w.cell? ⟨g, 0, none⟩ = some (.slice A 0 c)) (hlt : g < w.heap.size) :
    Calls Tryd.prog 61 #[.pointer (some ⟨g, 0, none⟩), .int .i64 0, .int .i64 0] w fun e w' => e = .returned (.tuple #[.int .i64 0, .int .i64 3]) ∧ Below w.heap.size w w' := by
  go_enter Tryd.func61, Tryd.ntmps61
  go_wp2
  go_loopg [1] 1 (fun k v1 wr => k = 1 ∧ v1 = .int .i64 0 ∧ wr = w)
  case atStart => exact ⟨rfl, rfl, rfl⟩
  case round =>
    obtain ⟨rfl, rfl, rfl⟩ := hrel
    go_wp2
    go_ret2
    exact ⟨rfl, Below.refl _ _⟩

def AllPost (l : List Trp.Ins) (w0 : World) (g : Nat) (A : Option Addr) (c : Nat) (e : Ending) (w' : World) : Prop :=
  e = .returned (.int .i64 (Trp.nestCheck l)) ∧ Below w0.heap.size w0 w' ∧ (Trp.nestCheck l = 0 → ∃ eb lb ce cl, MkAt w' w0.heap.size g eb lb ce cl A l.length c (Trp.nestEnds l) (Trp.nestElses l))
def AllRel (l : List Trp.Ins) (w0 : World) (g : Nat) (A : Option Addr) (c k : Nat) (wr : World) : Prop :=
  ∃ vE vL, Two w0 wr w0.heap.size g #[.slice A l.length c, vE, vL] vE vL k k

set_option maxHeartbeats 4000000 in
set_option maxRecDepth 100000 in
theorem ref_all (l : List Trp.Ins) (hops : ∀ x ∈ l, 0 ≤ x.op ∧ x.op ≤ 255) (a0 : Addr) (c : Nat) (w0 : World) (hl : l.length ≤ c) (hC : kIns.C w0 (some a0) l.length l) (hG : Gl w0) (g : Nat) (hbg : w0.heap.size ≤ g) (h0 : 0 < l.length) (h200 : l.length ≤ 200)
    (w : World) (hb0 : Below w0.heap.size w0 w) (hblk : w.heap[g]? = some (.cells #[.slice (some a0) l.length c, .slice none 0 0, .slice none 0 0] 85 (0, 0))) :
    Calls Tryd.prog 46 #[.pointer (some ⟨g, 0, none⟩)] w (AllPost l w0 g (some a0) c) := by
  have hm := Kd.C_max hC
  have HC := Aside0.mk hC
  have HOps := Aside0.mk hops
  have HG0 := Aside0.mk hG
  have HB0 := Aside0.mk hb0
  have HT0 : Two w0 w w0.heap.size g #[.slice (some a0) l.length c, .slice none 0 0, .slice none 0 0] (.slice none 0 0) (.slice none 0 0) 0 0 :=
    ⟨hb0, hbg, hblk, World.ownsRow_nil _ _ _ _, World.ownsRow_nil _ _ _ _, by simp [Value.ownBlock], by simp [Value.ownBlock], by simp [Value.ownBlock], hb0.size⟩
  have HT := Aside0.mk HT0
  have c0 := blk_cell hblk 0
  have hgl := blk_lt hblk
  simp at c0
  have hbi := buildInt (-1)
  clear hC hops hG hb0 HT0 hblk
  go_enter Tryd.func46, Tryd.ntmps46
  go_wp2
  go_loopw [11] (fun v11 wr => ∃ k : Nat, k ≤ l.length ∧ v11 = .int .i64 k ∧ Aside0 (AllRel l w0 g (some a0) c k wr)) (fun v11 _ => l.length - (intOf v11).toNat)
  case atStart => exact ⟨0, Nat.zero_le _, rfl, ⟨_, _, HT.out⟩⟩
  case round =>
    obtain ⟨k, hk, rfl, ⟨vE, vL, hT⟩⟩ := hrel
    have HTr := Aside0.mk hT
    have b0 := blk_cell hT.hg 0
    have b1 := blk_cell hT.hg 1
    have b2 := blk_cell hT.hg 2
    have hglr := blk_lt hT.hg
    have hszr := hT.bs
    simp at b0 b1 b2
    clear hT c0
    by_cases hlt : k < l.length
    · go_upto_region 3 with (fail)
      have HNE : Aside0 (∀ q, wr.heap.size ≤ q → some q ≠ vE.ownBlock ∧ some q ≠ vL.ownBlock) :=
        ⟨fun q hq => ⟨fun e => by have := own_lt HTr.out.oE q e.symm; omega, fun e => by have := own_lt HTr.out.oL q e.symm; omega⟩⟩
      obtain ⟨-, -, -, f1, f2, -⟩ := HTr.out.c
      go_region_law (first
        | (refine stepL (W := _) rfl (.tmp 24) (.tmp 25) rfl (by simp [Act.eval, Act.put]; rfl) _ (by simp [Act.eval, Act.put]; rfl) (by repeat (first | exact HTE.out | apply Two.alloc | apply Two.drew)) (by first | (simp [World.cell?_alloc_new]; done) | exact HGE.out.cell (by simp [World.cell?_alloc_new]) (HNE.out _ (by simp)).1) (by omega) ?_; intro A2 k2 w2 HTEL HGL; obtain ⟨n0, n1, n2, n3, n4, n5⟩ := HTEL.out.c)
        | (refine stepE (W := _) rfl (.tmp 18) (.tmp 19) rfl (by simp [Act.eval, Act.put]; rfl) _ (by simp [Act.eval, Act.put]; rfl) (by repeat (first | exact HTL.out | apply Two.alloc | apply Two.drew)) (by first | (simp [World.cell?_alloc_new]; done) | exact HGL.out.cell (by simp [World.cell?_alloc_new]) (HNE.out _ (by simp)).2) (by omega) ?_; intro A2 k2 w2 HTEL HGE; obtain ⟨n0, n1, n2, n3, n4, n5⟩ := HTEL.out.c)
        | (refine stepE (W := _) rfl (.tmp 18) (.tmp 19) rfl (by simp [Act.eval, Act.put]; rfl) _ (by simp [Act.eval, Act.put]; rfl) (by repeat (first | exact HTr.out | apply Two.alloc | apply Two.drew)) (by simp [World.cell?_alloc_new]) (by omega) ?_; intro A1 k1 w1 HTE HGE; obtain ⟨m0, m1, m2, m3, m4, m5⟩ := HTE.out.c)
        | (refine stepL (W := _) rfl (.tmp 24) (.tmp 25) rfl (by simp [Act.eval, Act.put]; rfl) _ (by simp [Act.eval, Act.put]; rfl) (by repeat (first | exact HTr.out | apply Two.alloc | apply Two.drew)) (by simp [World.cell?_alloc_new]) (by omega) ?_; intro A1 k1 w1 HTL HGL; obtain ⟨m0, m1, m2, m3, m4, m5⟩ := HTL.out.c))
      all_goals
        go_wp2
        go_roundw
        case rel => exact ⟨k + 1, by omega, by go_num, ⟨_, _, (HTEL.out.put 1 _).put 2 _⟩⟩
        case measure => simp [intOf]; omega
    · obtain rfl : k = l.length := by omega
      obtain ⟨eb, lb, ce, cl, hM⟩ := HTr.out.mk_at h0
      have hsq := seq_any l HOps.out a0 c w0 hl HC.out HG0.out g eb lb ce cl (l.length + 1) 0 0 _ _ wr (by omega) (by omega) (by omega) HTr.out.bw hM
      rw [show ((0 : Nat) : Int) = 0 from rfl] at hsq
      have HSQ := Aside0.mk hsq
      have HM := Aside0.mk hM
      clear hsq hM hlt hk
      go_wp2_with (fail)
      go_at_call 61
      refine HSQ.out.mono ?_
      rintro e w3 ⟨E, L, j, er, rfl, hS, hM3, hK3⟩
      have HN := Aside0.mk (Trp.nest_all h200 hS)
      have HB3 : Aside0 (Below w0.heap.size w0 w3) := ⟨HTr.out.bw.trans (hK3.below (by rintro k (rfl | rfl); exact HM.out.be; exact HM.out.bl) HTr.out.bw.size)⟩
      have HM3 := Aside0.mk hM3
      obtain ⟨d0, d1, d2⟩ := hM3.c0
      have hgl3 := hM3.lt
      clear hM3 hK3 hS b0 b1 b2
      by_cases her : er = 0
      · subst her
        have hj := HN.out.2.2.2.2 rfl
        obtain ⟨ad, A4, c4, hA, q0, -, -, -, -, -⟩ := at_TIns (Kd.C_below HC.out HB3.out) (j : Int) (by omega) (by omega)
        injection hA with hA
        subst hA
        rw [rdIns_eq] at q0
        simp only [Int.toNat_natCast] at q0
        obtain ⟨y, hy⟩ : ∃ y, (l.getD j Trp.zIns).op = y := ⟨_, rfl⟩
        rw [hy] at q0
        have HY := Aside0.mk hy
        clear hy
        by_cases y5 : y = 5
        · have y5' : (y == 5) = true := by simpa using y5
          have HR : Aside0 (Trp.nestCheck l = 4) := ⟨HN.out.2.1 rfl (HY.out.trans y5)⟩
          clear y5
          go_wp2_with (fail)
          go_ret
          exact ⟨ret_int HR.out.symm, HB3.out, fun h => absurd (HR.out.symm.trans h) (by decide)⟩
        · have y5' : (y == 5) = false := by simpa using y5
          have HY5 : Aside0 ((l.getD j Trp.zIns).op ≠ 5) := ⟨by rw [HY.out]; exact y5⟩
          clear y5
          by_cases hjl : j + 1 = l.length
          · have hjt : ((j : Int) == (l.length : Int) - 1) = true := by simp; omega
            have HR := Aside0.mk (HN.out.2.2.1 rfl HY5.out hjl)
            clear hjl
            go_wp2_with (fail)
            go_ret
            exact ⟨ret_int HR.out.1.symm, HB3.out, fun _ => ⟨eb, lb, ce, cl, by rw [HR.out.2.1, HR.out.2.2]; exact HM3.out⟩⟩
          · have hjt : ((j : Int) == (l.length : Int) - 1) = false := by simp; omega
            have HR := Aside0.mk (HN.out.2.2.2.1 rfl HY5.out (by omega))
            obtain ⟨ad, A5, c5, hA, e0, e1, e2, e3, hl5, hC5⟩ := at_TIns (Kd.C_below HC.out HB3.out) ((j + 1 : Nat) : Int) (by omega) (by omega)
            injection hA with hA
            subst hA
            obtain ⟨x, hx⟩ : ∃ x, rd_TIns l ((j + 1 : Nat) : Int) = x := ⟨_, rfl⟩
            simp only [hx, Int.toNat_natCast] at e0 e1 e2 e3 hl5 hC5
            rw [rdIns_eq] at hx
            have hxo := HOps.out x (by rw [← hx, List.getD_eq_getElem?_getD, List.getElem?_eq_getElem (by omega)]; exact List.getElem_mem _)
            have HX := Aside0.mk hx
            have HC5 := Aside0.mk hC5
            have HG3 := Aside0.mk (HG0.out.below HB3.out)
            have hj1 : ((j : Int) + 1).toNat = j + 1 := by omega
            clear hx hC5
            cases hz : (Trp.insCheck x != 0)
            all_goals
              go_wp2_with (go_at_call 62; refine (ref_InsCheck x hxo.1 hxo.2 A5 c5 _ HG3.out hl5 HC5.out).mono ?_; rintro e w4 ⟨rfl, hb4⟩; have HB4 : Aside0 (Below w0.heap.size w0 w4) := ⟨below_then HB3.out HB3.out.size hb4⟩; clear hb4)
              go_ret
              have hr := HR.out
              rw [HX.out] at hr
              first
                | (rw [if_pos (by simpa using hz)] at hr; exact ⟨ret_int hr.symm, HB4.out, fun h => absurd (hr.symm.trans h) (by simpa using hz)⟩)
                | (rw [if_neg (by simpa using hz)] at hr; exact ⟨ret_int hr.symm, HB4.out, fun h => absurd (hr.symm.trans h) (by decide)⟩)
      · have her2 : (er != 0) = true := by simpa using her
        have HE := Aside0.mk her
        have HR : Aside0 (Trp.nestCheck l = er) := ⟨HN.out.1 her⟩
        clear her
        go_wp2_with (fail)
        go_ret
        exact ⟨ret_int HR.out.symm, HB3.out, fun h => absurd (HR.out.symm.trans h) HE.out⟩
end Go.Proofs.YteaphfmgcpanmaaDoor

namespace Go.Proofs.YteaphfmgcpanmaaDoor
set_option linter.unusedVariables false
set_option linter.unusedSimpArgs false
open Go.RowKit Go.Proofs.YteaphfmgcpanmaaDoorW.PrintWords

/-- ends, elses, error -/
def MatchPost (l : List Trp.Ins) (w : World) (e : Ending) (w' : World) : Prop :=
  ∃ u v, e = .returned (.tuple #[u, v, .int .i64 (Trp.nestCheck l)]) ∧ (Kd.int .i64).R 3 w' w.heap.size (fun _ => True) u (Trp.nestEnds l) ∧ (Kd.int .i64).R 3 w' w.heap.size (fun k => some k ≠ u.ownBlock) v (Trp.nestElses l) ∧ Below w.heap.size w w'
theorem MatchPost.bad {l : List Trp.Ins} {w w' : World} {e : Int} (h : Trp.nestCheck l = e) (he : e ≠ 0) (hb : Below w.heap.size w w') : MatchPost l w (.returned (.tuple #[.slice none 0 0, .slice none 0 0, .int .i64 e])) w' := by
  subst h
  have h1 : Trp.nestEnds l = [] := by unfold Trp.nestEnds; rw [if_pos he]
  have h2 : Trp.nestElses l = [] := by unfold Trp.nestElses; rw [if_pos he]
  exact ⟨_, _, rfl, by rw [h1]; exact Kd.R_nil _ _ _ _ _, by rw [h2]; exact Kd.R_nil _ _ _ _ _, hb⟩
theorem MatchPost.ok {l : List Trp.Ins} {w w' : World} {g eb lb ce cl c : Nat} {A : Option Addr} (h : Trp.nestCheck l = 0) (hM : MkAt w' w.heap.size g eb lb ce cl A l.length c (Trp.nestEnds l) (Trp.nestElses l)) (hb : Below w.heap.size w w') :
    MatchPost l w (.returned (.tuple #[.slice (some ⟨eb, 0, none⟩) l.length ce, .slice (some ⟨lb, 0, none⟩) l.length cl, .int .i64 0])) w' :=
  ⟨_, _, by rw [h], Kd.R_mono hM.hE (fun _ _ => trivial), Kd.R_mono hM.hL (fun k hk => by subst hk; simp [Value.ownBlock]; exact fun e => hM.el e.symm), hb⟩

theorem all_nil (g c : Nat) (A : Option Addr) (w : World) (hblk : w.heap[g]? = some (.cells #[.slice A 0 c, .slice none 0 0, .slice none 0 0] 85 (0, 0))) :
    Calls Tryd.prog 46 #[.pointer (some ⟨g, 0, none⟩)] w fun e w' => e = .returned (.int .i64 3) ∧ Below w.heap.size w w' := by
  have c0 := blk_cell hblk 0
  have hgl := blk_lt hblk
  simp at c0
  clear hblk
  go_enter Tryd.func46, Tryd.ntmps46
  go_wp2
  go_loopg [11] 1 (fun k v1 wr => k = 1 ∧ v1 = .int .i64 0 ∧ wr = w)
  case atStart => exact ⟨rfl, rfl, rfl⟩
  case round =>
    obtain ⟨rfl, rfl, rfl⟩ := hrel
    go_wp2_with (go_at_call 61; refine (seq_nil g c A _ c0 hgl).mono ?_; rintro e w' ⟨rfl, hb⟩)
    go_ret
    exact ⟨rfl, hb⟩

set_option maxHeartbeats 1000000 in
theorem ref_NestMatch (l : List Trp.Ins) (hops : ∀ x ∈ l, 0 ≤ x.op ∧ x.op ≤ 255) (A : Option Addr) (c : Nat) (w : World) (hl : l.length ≤ c) (hC : kIns.C w A l.length l) (hG : Gl w) :
    Calls Tryd.prog 33 #[.slice A l.length c] w (MatchPost l w) := by
  have hm := Kd.C_max hC
  by_cases h200 : 200 < l.length
  · have h2' : (200 : Int) < (l.length : Int) := by omega
    have HN := Aside0.mk (show Trp.nestCheck l = 2 by unfold Trp.nestCheck; rw [if_pos h200])
    go_enter Tryd.func33, Tryd.ntmps33
    go_wp2
    go_ret3
    exact MatchPost.bad HN.out (by decide) (Below.refl _ _)
  have h2' : ¬ (200 : Int) < (l.length : Int) := by omega
  by_cases h0 : l.length = 0
  · have hz : l = [] := List.eq_nil_of_length_eq_zero h0
    subst hz
    have HN := Aside0.mk (show Trp.nestCheck [] = 3 by decide)
    clear hC hm hops h2' h200 h0 hG
    go_enter Tryd.func33, Tryd.ntmps33
    go_wp2_with (go_at_call 46; refine (all_nil w.heap.size c A _ (by simpa using blk_new w (.cells #[.slice A 0 c, .slice none 0 0, .slice none 0 0] 85))).mono ?_; rintro e w' ⟨rfl, hb⟩)
    go_ret3
    exact MatchPost.bad HN.out (by decide) (below_then ((Below.refl _ _).alloc (Nat.le_refl _) _) (by simp) hb)
  obtain ⟨a0, rfl⟩ : ∃ a0, A = some a0 := by
    obtain ⟨ad, _, _, hA, _⟩ := at_TIns hC (0 : Int) (by omega) (by omega)
    exact ⟨ad, hA⟩
  have cAll := ref_all l hops a0 c w hl hC hG w.heap.size (Nat.le_refl _) (by omega) (by omega) (w.alloc (.cells #[.slice (some a0) l.length c, .slice none 0 0, .slice none 0 0] 85)) ((Below.refl _ _).alloc (Nat.le_refl _) _) (blk_new w _)
  have CAll := Aside0.mk cAll
  clear cAll hC hops hG h0 h200
  go_enter Tryd.func33, Tryd.ntmps33
  go_upto_region 5 with (go_at_call 46; refine CAll.out.mono ?_; rintro e w' ⟨rfl, hb, hok⟩; have HB := Aside0.mk hb; have HOK := Aside0.mk hok; clear hb hok)
  obtain ⟨R, hR⟩ : ∃ R, Trp.nestCheck l = R := ⟨_, rfl⟩
  rw [hR] at HOK
  simp only [hR]
  have HR := Aside0.mk hR
  clear hR
  by_cases hr : R = 0
  · subst hr
    obtain ⟨eb, lb, ce, cl, hM⟩ := HOK.out rfl
    obtain ⟨d0, d1, d2⟩ := hM.c0
    have hgl := hM.lt
    have HM := Aside0.mk hM
    clear hM
    go_wp2
    go_quiet (fail)
    go_wp2
    go_ret3
    exact MatchPost.ok HR.out (HM.out.below (pw_below_drewN (Below.refl _ _) _)) (pw_below_drewN HB.out _)
  · have hr2 : (R != 0) = true := by simpa using hr
    have HN := Aside0.mk hr
    clear hr
    go_wp2
    go_ret3
    exact MatchPost.bad HR.out HN.out HB.out

theorem ref_NestCheck (l : List Trp.Ins) (hops : ∀ x ∈ l, 0 ≤ x.op ∧ x.op ≤ 255) (A : Option Addr) (c : Nat) (w : World) (hl : l.length ≤ c) (hC : kIns.C w A l.length l) (hG : Gl w) :
    Calls Tryd.prog 19 #[.slice A l.length c] w fun e w' => e = .returned (.int .i64 (Trp.nestCheck l)) ∧ Below w.heap.size w w' := by
  have cM := Aside0.mk (ref_NestMatch l hops A c w hl hC hG)
  clear hC hops hG
  go_enter Tryd.func19, Tryd.ntmps19
  go_wp2_with (go_at_call 33; refine cM.out.mono ?_; rintro e w' ⟨u, v, rfl, hu, hv, hb⟩; obtain ⟨A1, c1, rfl⟩ := Kd.R_slice hu; obtain ⟨A2, c2, rfl⟩ := Kd.R_slice hv; clear hu hv)
  go_ret
  exact ⟨rfl, hb⟩
end Go.Proofs.YteaphfmgcpanmaaDoor

namespace Go.Proofs
open Go.Shelf Go.RowKit Go.Lib
theorem Tryd.Builder_Len (B b : Nat) (bs : List Value) (w : World) (h : Lib.IsBuilder 42 5 B b bs w) :
    Calls Tryd.prog 17 #[.pointer (some ⟨b, 0, none⟩)] w fun e w' => e = .returned (.int .i64 bs.length) ∧ w' = w := Any.Builder_Len Tryd.lays170 B b bs w h
theorem Tryd.Builder_Extra_169 : Builder.Extra Tryd.prog Tryd.lays169_ren := {
  sizeBuilder := by kernel_rfl
  liesBuilder := by kernel_rfl
  t5 := Tryd.underlying5
  a5 := Tryd.isAgg5
  z5 := Tryd.sizeOf5
  v5 := Tryd.zeroValue5
  infoByte := by kernel_rfl
  cellsByte := by kernel_rfl
  sizeByte := by kernel_rfl
  neB5 := by decide }
theorem Tryd.Builder_String_any (B b : Nat) (l : List UInt8) (w : World) (h : Lib.IsBuilder 42 5 B b (Lib.byteCells l) w) (hBw : B ≤ w.heap.size) :
    Calls Tryd.prog 18 #[.pointer (some ⟨b, 0, none⟩)] w fun e w' => e = .returned (.string ⟨l.toArray⟩) ∧ Below B w w' := Any.Builder_String_any Tryd.lays169 Tryd.Builder_Extra_169 B b l w h hBw
theorem Tryd.Builder_Extra_156 : Builder.Extra Tryd.prog Tryd.lays156_ren := {
  sizeBuilder := by kernel_rfl
  liesBuilder := by kernel_rfl
  t5 := Tryd.underlying5
  a5 := Tryd.isAgg5
  z5 := Tryd.sizeOf5
  v5 := Tryd.zeroValue5
  infoByte := by kernel_rfl
  cellsByte := by kernel_rfl
  sizeByte := by kernel_rfl
  neB5 := by decide }
theorem Tryd.lays166 : Lays.n166 Tryd.prog Tryd.lays156_ren := { Tryd.lays156 with }
theorem Tryd.Builder_WriteString (B b : Nat) (bs : List Value) (s : ByteArray) (w : World) (h : Lib.IsBuilder 42 5 B b bs w) (hlen : bs.length + s.size ≤ 140737488355328) (hBw : B ≤ w.heap.size) :
    Calls Tryd.prog 13 #[.pointer (some ⟨b, 0, none⟩), .string s] w fun e w' => e = .returned (.tuple #[.int .i64 s.size, .nilIface]) ∧ (Lib.BuilderAt 42 5 B b (.pointer (some ⟨b, 0, none⟩)) (bs ++ Lib.strCells s) w' ∧ Below B w w') := Any.Builder_WriteString Tryd.lays166 Tryd.Builder_Extra_156 B b bs s w h hlen hBw
def Tryd.renB : Ren := ⟨fun k => if k = 167 then 16 else Tryd.lays156_ren.f k, Tryd.lays156_ren.t, Tryd.lays156_ren.g⟩
theorem Tryd.lays167 : Lays.n167 Tryd.prog Tryd.renB := {
  mixed := Tryd.lays156.mixed
  f167 := by kernel_rfl
  f240 := Tryd.lays156.f240
  f276 := Tryd.lays156.f276
  t0 := Tryd.lays156.t0
  a0 := Tryd.lays156.a0
  z0 := Tryd.lays156.z0
  v0 := Tryd.lays156.v0
  t4 := Tryd.lays156.t4
  a4 := Tryd.lays156.a4
  z4 := Tryd.lays156.z4
  v4 := Tryd.lays156.v4
  t5 := Tryd.underlying5
  a5 := Tryd.isAgg5
  z5 := Tryd.sizeOf5
  v5 := Tryd.zeroValue5
  t9 := Tryd.lays156.t9
  a9 := Tryd.lays156.a9
  z9 := Tryd.lays156.z9
  v9 := Tryd.lays156.v9
  t20 := Tryd.lays156.t20
  a20 := Tryd.lays156.a20
  z20 := Tryd.lays156.z20
  v20 := Tryd.lays156.v20
  t37 := Tryd.lays156.t37
  a37 := Tryd.lays156.a37
  z37 := Tryd.lays156.z37
  v37 := Tryd.lays156.v37
  t70 := Tryd.lays156.t70
  a70 := Tryd.lays156.a70
  z70 := Tryd.lays156.z70
  v70 := Tryd.lays156.v70
  t72 := Tryd.lays156.t72
  a72 := Tryd.lays156.a72
  z72 := Tryd.lays156.z72
  v72 := Tryd.lays156.v72
  t75 := Tryd.lays156.t75
  a75 := Tryd.lays156.a75
  z75 := Tryd.lays156.z75
  v75 := Tryd.lays156.v75
  t164 := Tryd.lays156.t164
  a164 := Tryd.lays156.a164
  z164 := Tryd.lays156.z164
  v164 := Tryd.lays156.v164 }
theorem Tryd.Builder_Extra_167 : Builder.Extra Tryd.prog Tryd.renB := {
  sizeBuilder := by kernel_rfl
  liesBuilder := by kernel_rfl
  t5 := Tryd.underlying5
  a5 := Tryd.isAgg5
  z5 := Tryd.sizeOf5
  v5 := Tryd.zeroValue5
  infoByte := by kernel_rfl
  cellsByte := by kernel_rfl
  sizeByte := by kernel_rfl
  neB5 := by decide }
theorem Tryd.Builder_WriteByte (B b : Nat) (bs : List Value) (c : Int) (w : World) (h : Lib.IsBuilder 42 5 B b bs w) (hlen : bs.length + 1 ≤ 140737488355328) (hBw : B ≤ w.heap.size) :
    Calls Tryd.prog 16 #[.pointer (some ⟨b, 0, none⟩), .int .u8 c] w fun e w' => e = .returned .nilIface ∧ (Lib.BuilderAt 42 5 B b (.pointer (some ⟨b, 0, none⟩)) (bs ++ [.int .u8 c]) w' ∧ Below B w w') := Any.Builder_WriteByte Tryd.lays167 Tryd.Builder_Extra_167 B b bs c w h hlen hBw
theorem Tryd.strings_Join (bk o c : Nat) (xs : List ByteArray) (sep : ByteArray) (w : World) (hcells : ∀ (j : Nat) x, xs[j]? = some x → w.cell? ⟨bk, o + j, none⟩ = some (.string x)) (hbk : bk < w.heap.size) (hN : xs.length ≤ 140737488355328) (hcap : xs.length ≤ c) (hlen : (Lib.join (xs.map (·.data.toList)) sep.data.toList).length ≤ 140737488355328) :
    Calls Tryd.prog 14 #[.slice (some ⟨bk, o, none⟩) xs.length c, .string sep] w fun e w' => e = .returned (.string ⟨(Lib.join (xs.map (·.data.toList)) sep.data.toList).toArray⟩) ∧ Below w.heap.size w w' := Any.strings_Join Tryd.lays156 Tryd.Builder_Extra_156 bk o c xs sep w hcells hbk hN hcap hlen
theorem Tryd.strconv_FormatInt (n : Int) (h0 : -9223372036854775808 ≤ n) (h1 : n ≤ 9223372036854775807) (w : World) (htab : Lib.TabIs Tryd.prog w "internal/strconv.uint64pow10" .u64 Lib.pow10Tab) :
    Calls Tryd.prog 31 #[.int .i64 n, .int .i64 10] w fun e w' => e = .returned (.string ⟨(Lib.itoa n).toArray⟩) ∧ ∃ k os, w' = Sort.grow (w.drewN k) os := Any.strconv_FormatInt_10 Tryd.laysM173 n h0 h1 w htab
end Go.Proofs

namespace Go.Proofs.YteaphfmgcpanmaaDoor
set_option linter.unusedVariables false
set_option linter.unusedSimpArgs false
open Go.RowKit Go.Proofs.YteaphfmgcpanmaaDoorW.PrintWords

/-! ### what the library's variables hold -/
structure Lb (w : World) : Prop where
  gl : Gl w
  tab : Lib.TabIs Tryd.prog w "internal/strconv.uint64pow10" .u64 Lib.pow10Tab
theorem tabIs_block {P : Program} {w w' : World} {name : String} {k : IntKind} {zs : List Int} (h : Lib.TabIs P w name k zs) (hb : Below w.heap.size w w') : Lib.TabIs P w' name k zs := by
  unfold Lib.TabIs World.var? at *
  cases hg : P.globalNamed name with
  | none => simp [hg] at h
  | some g =>
    simp only [hg, Option.bind_some] at h ⊢
    have hlt : g < w.heap.size := by
      rcases Nat.lt_or_ge g w.heap.size with h' | h'
      · exact h'
      · rw [Array.getElem?_eq_none h'] at h; simp at h
    rw [hb.block g hlt]
    exact h
theorem Lb.below {w w' : World} (h : Lb w) (hb : Below w.heap.size w w') : Lb w' := ⟨h.gl.below hb, tabIs_block h.tab hb⟩
def bstr (l : List UInt8) : ByteArray := ⟨l.toArray⟩
theorem fmt_int (n : Int) (h0 : -9223372036854775808 ≤ n) (h1 : n ≤ 9223372036854775807) (w : World) (hL : Lb w) :
    Calls Tryd.prog 31 #[.int .i64 n, .int .i64 10] w fun e w' => e = .returned (.string (bstr (Lib.itoa n))) ∧ Below w.heap.size w w' := by
  refine (Tryd.strconv_FormatInt n h0 h1 w hL.tab).mono ?_
  rintro e w' ⟨rfl, k, os, rfl⟩
  exact ⟨rfl, Lib.below_grow _ w (Nat.le_refl _) k os⟩

/-! ### the variable 'out' that the closure captures -/
structure OutAt (W : World) (base b : Nat) (cs : Array Value) (v : Value) (xs : List ByteArray) : Prop where
  hg : W.heap[b]? = some (.cells cs 33 (0, 0))
  oS : W.ownsRow base 9 1 v xs.length (xs.map Value.string)
  ne : v.ownBlock ≠ some b
  bg : base ≤ b
  bs : base ≤ W.heap.size
section
variable {W W1 : World} {base b : Nat} {cs : Array Value} {v v1 : Value} {xs : List ByteArray}
theorem OutAt.below (h : OutAt W base b cs v xs) (hb : Below W.heap.size W W1) : OutAt W1 base b cs v xs :=
  ⟨(hb.block b (blk_lt h.hg)).trans h.hg, own_move h.oS (fun k hk => hb.block k (own_lt h.oS k hk)), h.ne, h.bg, Nat.le_trans h.bs hb.size⟩
theorem OutAt.alloc (h : OutAt W base b cs v xs) (o : Obj) : OutAt (W.alloc o) base b cs v xs := h.below ((Below.refl _ _).alloc (Nat.le_refl _) o)
theorem OutAt.drew (h : OutAt W base b cs v xs) : OutAt W.drew base b cs v xs := h.below (Below.refl _ _).drew
theorem OutAt.grow {u : ByteArray} (h : OutAt W base b cs v xs) (hown : W1.ownsRow base 9 1 v1 (xs.length + 1) (xs.map Value.string ++ [.string u])) (hg : W.grownBy W1 v.ownBlock) (hat : v1.ownBlock = v.ownBlock ∨ ∃ k, v1.ownBlock = some k ∧ W.heap.size ≤ k) :
    OutAt W1 base b cs v1 (xs ++ [u]) := by
  have hlt := blk_lt h.hg
  refine ⟨blk_grown h.hg hg (fun e => h.ne e.symm), by simpa using hown, ?_, h.bg, Nat.le_trans h.bs hg.size⟩
  rcases hat with e | ⟨q, e, hq⟩ <;> rw [e]
  · exact h.ne
  · intro e2; injection e2 with e2; omega
theorem OutAt.put (h : OutAt W base b cs v xs) (i : Nat) (u : Value) : OutAt (W.setCell ⟨b, i, none⟩ u) base b (cs.setIfInBounds i u) v xs :=
  ⟨blk_set h.hg i u, own_setCell h.oS (fun e => h.ne e.symm) u, h.ne, h.bg, by simpa using h.bs⟩
theorem OutAt.cell (h : OutAt W base b #[v1] v xs) : W.cell? ⟨b, 0, none⟩ = some v1 ∧ W.frozen? ⟨b, 0, none⟩ = false ∧ b < W.heap.size := ⟨by rw [blk_cell h.hg]; rfl, blk_frozen h.hg 0, blk_lt h.hg⟩
end
/-- what has turned since w0, where 'out' held v0 -/
structure FrS (b : Nat) (v0 : Value) (w0 : World) (v : Value) (W : World) : Prop where
  kp : Kp (fun k => k = b ∨ v0.ownBlock = some k) w0 W
  ow : v.ownBlock = v0.ownBlock ∨ ∃ k, v.ownBlock = some k ∧ w0.heap.size ≤ k
theorem FrS.refl (b : Nat) (v0 : Value) (w0 : World) : FrS b v0 w0 v0 w0 := ⟨Kp.refl _ _, .inl rfl⟩
section
variable {b : Nat} {v0 v v1 : Value} {w0 W W1 : World}
theorem FrS.below (h : FrS b v0 w0 v W) (hb : Below W.heap.size W W1) : FrS b v0 w0 v W1 := ⟨h.kp.step hb, h.ow⟩
theorem FrS.grow (h : FrS b v0 w0 v W) (hg : W.grownBy W1 v.ownBlock) (hat : v1.ownBlock = v.ownBlock ∨ ∃ k, v1.ownBlock = some k ∧ W.heap.size ≤ k) : FrS b v0 w0 v1 W1 := by
  have hs := h.kp.size
  refine ⟨h.kp.grown hg (fun k hk => ?_), ?_⟩
  · rcases h.ow with e | ⟨q, e, hq⟩
    · exact .inl (.inr (by rw [← e]; exact hk))
    · rw [e] at hk; injection hk with hk; exact .inr (by omega)
  · rcases hat with e | ⟨q, e, hq⟩
    · rw [e]; exact h.ow
    · exact .inr ⟨q, e, by omega⟩
theorem FrS.put (h : FrS b v0 w0 v W) (i : Nat) (u : Value) : FrS b v0 w0 v (W.setCell ⟨b, i, none⟩ u) := ⟨h.kp.setCell (.inl (.inl rfl)) u, h.ow⟩
theorem FrS.alloc (h : FrS b v0 w0 v W) (o : Obj) : FrS b v0 w0 v (W.alloc o) := h.below ((Below.refl _ _).alloc (Nat.le_refl _) o)
theorem FrS.drew (h : FrS b v0 w0 v W) : FrS b v0 w0 v W.drew := ⟨h.kp.drew, h.ow⟩
end
theorem infoStr : (Tryd.prog.info? 9).map (fun i => (i.zero, i.size, i.bytes)) = some (some (.string ⟨#[]⟩), 1, 16) := by kernel_rfl
section
variable {W : World} {base b : Nat} {cs : Array Value} {v : Value} {xs : List ByteArray} {v0 : Value} {w0 : World}
/-- append(out, u) as one step of a region that draws -/
theorem stepS {ops : Array Oper} {o : Oper} {act : Act} {Q : Exit → Act → World → Prop} {Kc : Act → World → Prop} {E : Prop} (hw : Region.wanted o (yielded ops act.tmps) = true) (s x : Operand) (ho : o.op = .call { callee := .builtin .append, args := #[s, x], argTypes := #[33, 33] })
    (hs : act.eval s = v) (q : Nat) (hx : act.eval x = .slice (some ⟨q, 0, none⟩) 1 1) (hT : OutAt W base b cs v xs) (hF : FrS b v0 w0 v W) (u : ByteArray) (hu : W.cell? ⟨q, 0, none⟩ = some (.string u)) (hl : xs.length ≤ 1000000)
    (h : ∀ A1 c1 w1, Aside0 (OutAt w1 base b cs (.slice A1 (xs.length + 1) c1) (xs ++ [u])) → Aside0 (FrS b v0 w0 (.slice A1 (xs.length + 1) c1) w1) → Kc (act.put o.dst (.slice A1 (xs.length + 1) c1)) w1) : if Region.wanted o (yielded ops act.tmps) = true then Oper.wp Tryd.prog o act W Kc Q else E := by
  obtain ⟨i0, hi, hzz⟩ := Option.map_eq_some_iff.1 infoStr
  simp only [Prod.mk.injEq] at hzz
  obtain ⟨hz0, hz1, hz2⟩ := hzz
  rw [if_pos hw]
  obtain ⟨v1, w1, hr, hown1, hg, _, hat⟩ := run_append_own_at (P := Tryd.prog) W base 33 o.type 9 i0 (.string ⟨#[]⟩) 1 16 Tryd.underlying33 hi hz0 hz1 hz2 rfl (by decide) v xs.length _ hT.oS ⟨q, 0, none⟩ 1 1 [.string u] rfl
    (by intro j u' hj; cases j with
        | zero => have : Value.string u = u' := by simpa using hj
                  subst this; rw [show (⟨q, 0, none⟩ : Addr).add 0 = ⟨q, 0, none⟩ from by unfold Addr.add; simp]; exact hu
        | succ j => simp at hj) (by simp; rfl) (by simp only [maxLen]; omega) (by omega) hT.bs
  have hat' : v1.ownBlock = v.ownBlock ∨ ∃ k, v1.ownBlock = some k ∧ W.heap.size ≤ k := by
    rcases hat with hat | hat
    · exact .inl hat
    · exact .inr ⟨_, hat, Nat.le_refl _⟩
  unfold Oper.wp execOp
  simp only [ho, resolve, invoke, builtin, Sem.run_bind, Sem.run_pure, Result.andThen_ok, List.map_toArray, List.map_cons, List.map_nil, hs, hx, hr]
  obtain ⟨A1, c1, rfl⟩ := own_slice hown1
  exact h A1 c1 w1 ⟨hT.grow hown1 hg hat'⟩ ⟨hF.grow hg hat'⟩
/-- .. and in a list of operations -/
theorem listS {ops : Array Oper} {rest : List Oper} {o : Oper} {act : Act} {Q : Exit → Act → World → Prop} (hgd : o.guard = none) (s x : Operand) (ho : o.op = .call { callee := .builtin .append, args := #[s, x], argTypes := #[33, 33] })
    (hs : act.eval s = v) (q : Nat) (hx : act.eval x = .slice (some ⟨q, 0, none⟩) 1 1) (hT : OutAt W base b cs v xs) (hF : FrS b v0 w0 v W) (u : ByteArray) (hu : W.cell? ⟨q, 0, none⟩ = some (.string u)) (hl : xs.length ≤ 1000000)
    (h : ∀ A1 c1 w1, Aside0 (OutAt w1 base b cs (.slice A1 (xs.length + 1) c1) (xs ++ [u])) → Aside0 (FrS b v0 w0 (.slice A1 (xs.length + 1) c1) w1) → wpList Tryd.prog ops Q rest (act.put o.dst (.slice A1 (xs.length + 1) c1)) w1) : wpList Tryd.prog ops Q (o :: rest) act W := by
  obtain ⟨i0, hi, hzz⟩ := Option.map_eq_some_iff.1 infoStr
  simp only [Prod.mk.injEq] at hzz
  obtain ⟨hz0, hz1, hz2⟩ := hzz
  refine wpList_append_own_at W hgd s x 33 ho base 9 i0 (.string ⟨#[]⟩) 1 16 Tryd.underlying33 hi hz0 hz1 hz2 rfl (by decide) v xs.length _ hs hT.oS ⟨q, 0, none⟩ 1 1 [.string u] hx rfl
    (by intro j u' hj; cases j with
        | zero => have : Value.string u = u' := by simpa using hj
                  subst this; rw [show (⟨q, 0, none⟩ : Addr).add 0 = ⟨q, 0, none⟩ from by unfold Addr.add; simp]; exact hu
        | succ j => simp at hj) (by simp; rfl) (by simp only [maxLen]; omega) (by omega) hT.bs ?_
  intro v1 w1 hown1 hg _ hat
  have hat' : v1.ownBlock = v.ownBlock ∨ ∃ k, v1.ownBlock = some k ∧ W.heap.size ≤ k := by
    rcases hat with hat | hat
    · exact .inl hat
    · exact .inr ⟨_, hat, Nat.le_refl _⟩
  obtain ⟨A1, c1, rfl⟩ := own_slice hown1
  exact h A1 c1 w1 ⟨hT.grow hown1 hg hat'⟩ ⟨hF.grow hg hat'⟩
end
theorem buildStr (u : ByteArray) (W : World) : (Instr.buildSlice 33 1 #[(0, .string u)]).run Tryd.prog W = .ok (.slice (some ⟨W.heap.size, 0, none⟩) 1 1) (W.alloc (.cells #[.string u] 9)) := by
  obtain ⟨ie, hie, hz⟩ := Option.map_eq_some_iff.1 infoStr
  simp only [Prod.mk.injEq] at hz
  obtain ⟨hz0, hz1, _⟩ := hz
  refine run_buildSlice W _ _ 1 _ _ ie _ Tryd.underlying33 hie hz0 (by rw [hz1]; omega) (by rw [hz1]; omega) ?_
  rw [show (#[(0, Value.string u)] : Array (Nat × Value)).toList = ((([u] : List ByteArray).map Value.string).zipIdx 0).map fun x => (x.2, x.1) from rfl, hz1]
  exact Great.fill_flat _ _ (fun v hv => by obtain ⟨n, _, rfl⟩ := List.mem_map.1 hv; rfl) (by simp)

theorem take_snoc1 (ns : List Int) (j : Nat) (h : j < ns.length) : ns.take (j + 1) = ns.take j ++ [ns.getD j 0] := by
  rw [List.take_succ_eq_append_getElem h]; simp [List.getD_eq_getElem?_getD, h]
def TellPost (base b : Nat) (xs : List ByteArray) (ns : List Int) (w : World) (e : Ending) (w' : World) : Prop :=
  e = .returned (.tuple #[]) ∧ (∃ v, OutAt w' base b #[v] v (xs ++ ns.map fun n => bstr (Lib.itoa n))) ∧ Below base w w'
set_option maxHeartbeats 4000000 in
set_option maxRecDepth 100000 in
theorem asm_tell (ns : List Int) (A : Option Addr) (c : Nat) (base b : Nat) (v0 : Value) (xs : List ByteArray) (w : World) (hl : ns.length ≤ c) (hn : ns.length ≤ 100) (hx : xs.length ≤ 1000) (hO : OutAt w base b #[v0] v0 xs)
    (hr : ∀ n ∈ ns, -9223372036854775808 ≤ n ∧ n ≤ 9223372036854775807)
    (hA : 0 < ns.length → ∃ ad, A = some ad ∧ ad.block ≠ b ∧ v0.ownBlock ≠ some ad.block ∧ ad.block < w.heap.size ∧ ∀ j, j < ns.length → w.cell? (ad.add j) = some (.int .i64 (ns.getD j 0))) (hL : ∀ W, Below base w W → Lb W) :
    Calls Tryd.prog 30 #[.slice A ns.length c, .pointer (some ⟨b, 0, none⟩)] w (TellPost base b xs ns w) := by
  have HO := Aside0.mk hO
  have HA := Aside0.mk hA
  have HL := Aside0.mk hL
  have HR := Aside0.mk hr
  clear hO hA hL hr
  go_enter Tryd.func30, Tryd.ntmps30
  go_wp2
  go_loopw [7] (fun v7 wr => ∃ (j : Nat) (v : Value), j ≤ ns.length ∧ v7 = .int .i64 j ∧ Aside0 (OutAt wr base b #[v] v (xs ++ (ns.take j).map fun n => bstr (Lib.itoa n))) ∧ Aside0 (FrS b v0 w v wr)) (fun v7 _ => ns.length - (intOf v7).toNat)
  case atStart => exact ⟨0, v0, Nat.zero_le _, rfl, ⟨by simpa using HO.out⟩, ⟨FrS.refl _ _ _⟩⟩
  case round =>
    obtain ⟨j, v, hj, rfl, HOr, HFr⟩ := hrel
    have HBr : Aside0 (Below base w wr) := ⟨HFr.out.kp.below (by rintro k (rfl | h); exact HO.out.bg; exact own_base HO.out.oS k h) HO.out.bs⟩
    by_cases hlt : j < ns.length
    · obtain ⟨ad, rfl, h1, h2, h3, h4⟩ := HA.out (by omega)
      have h5 := h4 j hlt
      have hab : (ad.add j).block = ad.block := by unfold Addr.add; split <;> rfl
      have e0 : wr.cell? (ad.add j) = some (.int .i64 (ns.getD j 0)) := (HFr.out.kp.cell (p := ad.add j) (by rw [hab]; exact h3) (by rw [hab]; rintro (e | e); exact h1 e; exact h2 e)).trans h5
      obtain ⟨n, hn'⟩ : ∃ n, ns.getD j 0 = n := ⟨_, rfl⟩
      rw [hn'] at e0
      have hbn := HR.out n (by rw [← hn', List.getD_eq_getElem?_getD, List.getElem?_eq_getElem hlt]; exact List.getElem_mem hlt)
      have HN := Aside0.mk hn'
      obtain ⟨b0, b1, b2⟩ := HOr.out.cell
      have hbs := fun u W => buildStr u W
      clear h1 h2 h3 h4 h5 hab hn'
      obtain ⟨ys, hys⟩ : ∃ ys, xs ++ (ns.take j).map (fun n => bstr (Lib.itoa n)) = ys := ⟨_, rfl⟩
      rw [hys] at HOr
      have hyl : ys.length ≤ 1100 := by rw [← hys]; simp; omega
      have HYS := Aside0.mk hys
      clear hys
      obtain ⟨A2, k2, rfl⟩ := own_slice HOr.out.oS
      go_upto_region 3 with (fail)
      go_region_law (first
        | (refine stepS (v0 := v0) (w0 := w) rfl (.tmp 11) (.tmp 14) rfl (by simp [Act.eval, Act.put]; rfl) _ (by simp [Act.eval, Act.put]; rfl) (by repeat (first | exact HO2.out | apply OutAt.alloc | apply OutAt.drew)) (by repeat (first | exact HF2.out | apply FrS.alloc | apply FrS.drew)) _ (by simp [World.cell?_alloc_new]; rfl) (by omega) ?_; intro A3 k3 w3 HO3 HF3; obtain ⟨m0, m1, m2⟩ := HO3.out.cell)
        | (go_simp; go_at_call 31; refine (fmt_int n hbn.1 hbn.2 _ (HL.out _ HBr.out.drew)).mono ?_; rintro e w2 ⟨rfl, hb2⟩; have HO2 := Aside0.mk (HOr.out.drew.below hb2); have HF2 := Aside0.mk (HFr.out.drew.below hb2); obtain ⟨d0, d1, d2⟩ := HO2.out.cell; clear hb2))
      all_goals
        go_wp2
        go_roundw
        case rel => exact ⟨j + 1, .slice A3 (ys.length + 1) k3, by omega, by go_num, ⟨by rw [take_snoc1 ns j hlt, HN.out, List.map_append, ← List.append_assoc, HYS.out]; exact HO3.out.put 0 _⟩, ⟨HF3.out.put 0 _⟩⟩
        case measure => simp [intOf]; omega
    · obtain rfl : j = ns.length := by omega
      rw [List.take_length] at HOr
      clear hlt hj
      go_wp2
      go_end0
      exact ⟨rfl, ⟨v, HOr.out⟩, HBr.out⟩
end Go.Proofs.YteaphfmgcpanmaaDoor

namespace Go.Proofs.YteaphfmgcpanmaaDoor
set_option linter.unusedVariables false
set_option linter.unusedSimpArgs false
open Go.RowKit Go.Proofs.YteaphfmgcpanmaaDoorW.PrintWords

theorem infoL64 : (Tryd.prog.info? 2).map (fun i => (i.zero, i.size, i.bytes)) = some (some (.int .i64 0), 1, 8) := by kernel_rfl
theorem buildL (xs : List Int) (n : Nat) (hn : n = xs.length) (h0 : 0 < n) (h1 : n ≤ 100) (parts : Array (Nat × Value)) (hp : parts.toList = ((xs.map (Value.int .i64)).zipIdx 0).map fun x => (x.2, x.1)) (W : World) :
    (Instr.buildSlice 43 n parts).run Tryd.prog W = .ok (.slice (some ⟨W.heap.size, 0, none⟩) n n) (W.alloc (.cells (xs.map (Value.int .i64)).toArray 2)) := by
  obtain ⟨ie, hie, hz⟩ := Option.map_eq_some_iff.1 infoL64
  simp only [Prod.mk.injEq] at hz
  obtain ⟨hz0, hz1, _⟩ := hz
  refine run_buildSlice W _ _ n parts _ ie _ Tryd.underlying43 hie hz0 (by rw [hz1]; omega) (by rw [hz1]; omega) ?_
  rw [hp, hz1]
  exact Great.fill_flat _ _ (fun v hv => by obtain ⟨n, _, rfl⟩ := List.mem_map.1 hv; rfl) (by simp [hn])
theorem buildL1 (x : Int) (W : World) : (Instr.buildSlice 43 1 #[(0, .int .i64 x)]).run Tryd.prog W = .ok (.slice (some ⟨W.heap.size, 0, none⟩) 1 1) (W.alloc (.cells #[.int .i64 x] 2)) := buildL [x] 1 rfl (by omega) (by omega) _ rfl W
theorem buildL2 (x y : Int) (W : World) : (Instr.buildSlice 43 2 #[(0, .int .i64 x), (1, .int .i64 y)]).run Tryd.prog W = .ok (.slice (some ⟨W.heap.size, 0, none⟩) 2 2) (W.alloc (.cells #[.int .i64 x, .int .i64 y] 2)) := buildL [x, y] 2 rfl (by omega) (by omega) _ rfl W

def I64 (n : Int) : Prop := -9223372036854775808 ≤ n ∧ n ≤ 9223372036854775807
/-- an instruction whose numbers are int64's -/
structure XIn (x : Trp.Ins) : Prop where
  op0 : 0 ≤ x.op
  op1 : x.op ≤ 255
  a : I64 x.a
  b : I64 x.b
  tos : ∀ n ∈ x.tos, I64 n
def wordsOf (x : Trp.Ins) : List ByteArray := bstr (Trp.nameOf x.op) :: (Trp.asmArgs x).map bstr
def WordsPost (x : Trp.Ins) (w : World) (e : Ending) (w' : World) : Prop :=
  ∃ v, e = .returned v ∧ w'.ownsRow w.heap.size 9 1 v (wordsOf x).length ((wordsOf x).map Value.string) ∧ Below w.heap.size w w'
theorem WordsPost.mk {x : Trp.Ins} {w w' : World} {base b : Nat} {v : Value} {ys : List ByteArray} (hO : OutAt w' base b #[v] v ys) (he : ys = wordsOf x) (hb : Below w.heap.size w w') (hbase : w.heap.size ≤ base) : WordsPost x w (.returned v) w' := by
  subst he
  exact ⟨v, rfl, own_weaken hO.oS hbase, hb⟩
theorem bes_cases (op : Int) : Trp.asmBes op = -1 ∨ Trp.asmBes op = -2 ∨ Trp.asmBes op = 2 ∨ Trp.asmBes op = 1 ∨ Trp.asmBes op = 0 := by
  unfold Trp.asmBes
  (repeat' split) <;> simp
theorem bes_at {op k : Int} (hk : Trp.asmBes op = k) (w : World) :
    Calls Tryd.prog 32 #[.int .u8 op] w fun e w' => e = .returned (.int .i64 k) ∧ w = w' := hk ▸ asm_beside op w
theorem args_of (x : Trp.Ins) :
    (Trp.asmBes x.op = -1 → Trp.asmArgs x = if x.a = 127 then [[105, 51, 50]] else if x.a = 126 then [[105, 54, 52]] else []) ∧
    (Trp.asmBes x.op = -2 → Trp.asmArgs x = (x.tos ++ [x.a]).map Lib.itoa) ∧ (Trp.asmBes x.op = 2 → Trp.asmArgs x = [Lib.itoa x.a, Lib.itoa x.b]) ∧
    (Trp.asmBes x.op = 1 → Trp.asmArgs x = [Lib.itoa x.a]) ∧ (Trp.asmBes x.op = 0 → Trp.asmArgs x = []) := by
  unfold Trp.asmBes Trp.asmArgs
  by_cases c1 : 2 ≤ x.op ∧ x.op ≤ 4
  · rw [if_pos c1, if_pos c1]; simp
  rw [if_neg c1, if_neg c1]
  by_cases c2 : x.op = 14
  · rw [if_pos c2, if_pos c2]; simp
  rw [if_neg c2, if_neg c2]
  by_cases c3 : 0 < Trp.width x.op
  · rw [if_pos c3, if_pos c3]; simp
  rw [if_neg c3, if_neg c3]
  by_cases c4 : x.op = 12 ∨ x.op = 13 ∨ x.op = 16 ∨ x.op = 17 ∨ (32 ≤ x.op ∧ x.op ≤ 36) ∨ x.op = 65 ∨ x.op = 66
  · rw [if_pos c4, if_pos c4]; simp
  · rw [if_neg c4, if_neg c4]; simp

set_option maxHeartbeats 4000000 in
set_option maxRecDepth 100000 in
theorem asm_words (x : Trp.Ins) (hX : XIn x) (ht : x.tos.length ≤ 16) (A : Option Addr) (c : Nat) (w : World) (hl : x.tos.length ≤ c) (hC : (Kd.int .i64).C w A x.tos.length x.tos) (hL : Lb w) :
    Calls Tryd.prog 15 #[.agg #[.int .u8 x.op, .int .i64 x.a, .int .i64 x.b, .slice A x.tos.length c]] w (WordsPost x w) := by
  obtain ⟨op, a, b, l⟩ := x
  simp only at *
  obtain ⟨n, rfl⟩ := Int.eq_ofNat_of_zero_le hX.op0
  have hn : n ≤ 255 := by have := hX.op1; simp at this; omega
  have HX := Aside0.mk hX
  have HC := Aside0.mk hC
  have HL := Aside0.mk hL
  have HArgs := Aside0.mk (args_of ⟨(n : Int), a, b, l⟩)
  obtain ⟨nm, hnm⟩ : ∃ nm, Trp.nameOf (n : Int) = nm := ⟨_, rfl⟩
  have cN : ∀ W, Lb W → Calls Tryd.prog 4 #[.int .u8 (n : Int)] W fun e w' => e = .returned (.tuple #[.string (bstr nm), .bool (Trp.asmName n).isSome]) ∧ Below W.heap.size W w' := fun W hW => by
    refine (asm_Name n hn W hW.gl).mono ?_
    rintro e w' ⟨rfl, hb⟩
    refine ⟨?_, hb⟩
    rw [← hnm]; rfl
  have CN := Aside0.mk cN
  have HNm := Aside0.mk hnm
  have hbs1 := fun u W => buildStr u W
  have hbl1 := buildL1
  have hbl2 := buildL2
  clear hX hC hL cN hnm
  obtain ⟨k, hk⟩ : ∃ k, Trp.asmBes (n : Int) = k := ⟨_, rfl⟩
  have hkc := bes_cases (n : Int)
  rw [hk] at hkc
  have HK := Aside0.mk hk
  clear hk
  go_enter Tryd.func15, Tryd.ntmps15
  go_upto_region 4 with (go_at_call 4; refine (CN.out _ (HL.out.below ((Below.refl _ _).alloc (Nat.le_refl _) _))).mono ?_; rintro e w1 ⟨rfl, hb⟩; have f0 := below_new hb 0; have f1 := below_new hb 1; have f2 := below_new hb 2; have f3 := below_new hb 3; have hz1 := hb.size; have HB1 := Aside0.mk hb; clear hb; simp at f0 f1 f2 f3 hz1)
  obtain ⟨W2, hW2⟩ : ∃ W2, (w1.alloc (.cells #[.string (bstr nm)] 9)).alloc (.cells #[.slice (some ⟨w1.heap.size, 0, none⟩) 1 1] 33) = W2 := ⟨_, rfl⟩
  rw [hW2]
  have hB12 : Below w1.heap.size w1 W2 := hW2 ▸ ((Below.refl _ _).alloc (Nat.le_refl _) _).alloc (by simp) _
  have hO : OutAt W2 w1.heap.size (w1.heap.size + 1) #[.slice (some ⟨w1.heap.size, 0, none⟩) 1 1] (.slice (some ⟨w1.heap.size, 0, none⟩) 1 1) [bstr nm] := by
    have h1 := blk_new w1 (.cells #[.string (bstr nm)] 9)
    have h2 := blk_new (w1.alloc (.cells #[.string (bstr nm)] 9)) (.cells #[.slice (some ⟨w1.heap.size, 0, none⟩) 1 1] 33)
    have h3 := blk_alloc h1 (.cells #[.slice (some ⟨w1.heap.size, 0, none⟩) 1 1] 33)
    rw [World.size_alloc, hW2] at h2
    rw [hW2] at h3
    exact ⟨h2, ⟨rfl, .inr ⟨w1.heap.size, 1, _, rfl, Nat.le_refl _, h3, Nat.le_refl _, by simp [maxLen], rfl, rfl⟩⟩, by simp [Value.ownBlock], by omega, hB12.size⟩
  have hbw : Below w.heap.size w W2 := (below_then ((Below.refl _ _).alloc (Nat.le_refl _) _) (by simp) HB1.out).trans (hB12.mono (by omega))
  have g0 := (hB12.cell (p := ⟨w.heap.size, 0, none⟩) (by show w.heap.size < _; omega)).trans f0
  have g1 := (hB12.cell (p := ⟨w.heap.size, 1, none⟩) (by show w.heap.size < _; omega)).trans f1
  have g2 := (hB12.cell (p := ⟨w.heap.size, 2, none⟩) (by show w.heap.size < _; omega)).trans f2
  have g3 := (hB12.cell (p := ⟨w.heap.size, 3, none⟩) (by show w.heap.size < _; omega)).trans f3
  have hszs := hB12.size
  obtain ⟨B, hB⟩ : ∃ B, w1.heap.size = B := ⟨_, rfl⟩
  obtain ⟨g, hg⟩ : ∃ g, w.heap.size = g := ⟨_, rfl⟩
  simp only [hB, hg] at hO g0 g1 g2 g3 hz1 hszs ⊢
  have hLb : ∀ W, Below B W2 W → Lb W := fun W hW => HL.out.below (hbw.trans (hW.mono (by omega)))
  have HLb := Aside0.mk hLb
  have HO := Aside0.mk hO
  have HBW := Aside0.mk hbw
  have HG := Aside0.mk hg
  have hgB : Aside0 (w.heap.size ≤ B) := ⟨by omega⟩
  obtain ⟨d0, d1, d2⟩ := hO.cell
  clear hW2 hB12 hO hbw f0 f1 f2 f3 hB hg hLb
  have hcl : ∀ j, j < l.length → ∃ ad, A = some ad ∧ ad.block < g ∧ W2.cell? (ad.add j) = some (.int .i64 (l.getD j 0)) := by
    intro j hj
    obtain ⟨ad, hA, hcell⟩ := Kd.at_int HC.out (j : Int) (by omega) (by omega)
    have hab : (ad.add j).block = ad.block := by unfold Addr.add; split <;> rfl
    rw [Int.toNat_natCast] at hcell
    have hlt := World.block_lt_of_cell? w _ hcell
    rw [hab] at hlt
    refine ⟨ad, hA, by rw [← HG.out]; exact hlt, (HBW.out.cell (p := ad.add j) (by rw [hab]; exact hlt)).trans ?_⟩
    rw [hcell]
    simp [rd]
  have HCL := Aside0.mk hcl
  clear hcl
  rcases hkc with rfl | rfl | rfl | rfl | rfl
  · -- a kind
    have HA := Aside0.mk (HArgs.out.1 HK.out)
    by_cases c1 : a = 127
    · have b1 : (a == 127) = true := by simpa using c1
      have HA' : Aside0 (Trp.asmArgs ⟨(n : Int), a, b, l⟩ = [[105, 51, 50]]) := ⟨by rw [HA.out, if_pos c1]⟩
      clear c1
      go_wp2_with (first | (go_at_call 32; refine (bes_at HK.out _).mono ?_; rintro e w' ⟨rfl, rfl⟩) | (at_builtin; refine listS (v0 := .slice (some ⟨B, 0, none⟩) 1 1) (w0 := W2) rfl (.tmp 24) (.tmp 25) rfl (by first | rfl | (simp [Act.eval, Act.put]; done) | (simp [Act.eval, Act.put]; rfl)) _ (by first | rfl | (simp [Act.eval, Act.put]; done) | (simp [Act.eval, Act.put]; rfl)) (HO.out.alloc _) ((FrS.refl _ _ _).alloc _) _ (by simp [World.cell?_alloc_new]; rfl) (by simp) ?_; intro A3 k3 w3 HO3 HF3; obtain ⟨m0, m1, m2⟩ := HO3.out.cell))
      go_ret
      exact WordsPost.mk (HO3.out.put 0 _) (by unfold wordsOf; rw [HNm.out, HA'.out]; rfl) (HBW.out.trans (((HF3.out.put 0 _).kp.below (by rintro k (rfl | h); omega; simp [Value.ownBlock] at h; omega) (by omega)).mono hgB.out)) hgB.out
    · have b1 : (a == 127) = false := by simpa using c1
      by_cases c2 : a = 126
      · have b2 : (a == 126) = true := by simpa using c2
        have HA' : Aside0 (Trp.asmArgs ⟨(n : Int), a, b, l⟩ = [[105, 54, 52]]) := ⟨by rw [HA.out, if_neg c1, if_pos c2]⟩
        clear c1 c2
        go_wp2_with (first | (go_at_call 32; refine (bes_at HK.out _).mono ?_; rintro e w' ⟨rfl, rfl⟩) | (at_builtin; refine listS (v0 := .slice (some ⟨B, 0, none⟩) 1 1) (w0 := W2) rfl (.tmp 30) (.tmp 31) rfl (by first | rfl | (simp [Act.eval, Act.put]; done) | (simp [Act.eval, Act.put]; rfl)) _ (by first | rfl | (simp [Act.eval, Act.put]; done) | (simp [Act.eval, Act.put]; rfl)) (HO.out.alloc _) ((FrS.refl _ _ _).alloc _) _ (by simp [World.cell?_alloc_new]; rfl) (by simp) ?_; intro A3 k3 w3 HO3 HF3; obtain ⟨m0, m1, m2⟩ := HO3.out.cell))
        go_ret
        exact WordsPost.mk (HO3.out.put 0 _) (by unfold wordsOf; rw [HNm.out, HA'.out]; rfl) (HBW.out.trans (((HF3.out.put 0 _).kp.below (by rintro k (rfl | h); omega; simp [Value.ownBlock] at h; omega) (by omega)).mono hgB.out)) hgB.out
      · have b2 : (a == 126) = false := by simpa using c2
        have HA' : Aside0 (Trp.asmArgs ⟨(n : Int), a, b, l⟩ = []) := ⟨by rw [HA.out, if_neg c1, if_neg c2]⟩
        clear c1 c2
        go_wp2_with (first | (go_at_call 32; refine (bes_at HK.out _).mono ?_; rintro e w' ⟨rfl, rfl⟩))
        go_ret
        exact WordsPost.mk HO.out (by unfold wordsOf; rw [HNm.out, HA'.out]; rfl) HBW.out hgB.out
  · -- all numbers
    have HA := Aside0.mk (HArgs.out.2.1 HK.out)
    go_wp2_with (first | (go_at_call 32; refine (bes_at HK.out _).mono ?_; rintro e w' ⟨rfl, rfl⟩))
    go_at_call 30
    refine (asm_tell l A c B (B + 1) _ _ W2 hl (by omega) (by simp) HO.out (fun m hm => HX.out.tos m hm) (fun h0 => ?_) HLb.out).mono ?_
    · obtain ⟨ad, hA, hlt, _⟩ := HCL.out 0 h0
      refine ⟨ad, hA, by omega, by simp [Value.ownBlock]; omega, by omega, fun j hj => ?_⟩
      obtain ⟨ad', hA', _, hc⟩ := HCL.out j hj
      rw [hA] at hA'; injection hA' with hA'; subst hA'; exact hc
    rintro e w3 ⟨rfl, ⟨v3, hO3⟩, hb3⟩
    have HO3 := Aside0.mk hO3
    have HB3 := Aside0.mk hb3
    obtain ⟨A3, k3, rfl⟩ := own_slice hO3.oS
    have x1 := (hb3.cell (p := ⟨g, 1, none⟩) (by show g < B; omega)).trans g1
    have hz3 := hb3.size
    clear hO3 hb3 d0 d1 d2 g0 g1 g2 g3
    go_wp2_with (fail)
    go_at_call 30
    refine (asm_tell [a] (some ⟨w3.heap.size, 0, none⟩) 1 B (B + 1) _ _ _ (by simp) (by simp) (by simp; omega) (HO3.out.alloc _) (fun m hm => by rw [List.mem_singleton.1 hm]; exact HX.out.a) (fun h0 => ?_) (fun W hW => HLb.out W (HB3.out.trans (((Below.refl _ _).alloc (by omega) _).trans hW)))).mono ?_
    · refine ⟨_, rfl, by have := HO3.out.cell.2.2; show w3.heap.size ≠ B + 1; omega, ?_, by simp, fun j hj => ?_⟩
      · intro e; have := own_lt HO3.out.oS _ e; simp at this
      · obtain rfl : j = 0 := by simp at hj; omega
        simp [World.cell?_alloc_new, Addr.add]
    rintro e w4 ⟨rfl, ⟨v4, hO4⟩, hb4⟩
    obtain ⟨ys, hys⟩ : ∃ ys, [bstr nm] ++ List.map (fun n => bstr (Lib.itoa n)) l ++ List.map (fun n => bstr (Lib.itoa n)) [a] = ys := ⟨_, rfl⟩
    rw [hys] at hO4
    have HYS := Aside0.mk hys
    clear hys
    have HO4 := Aside0.mk hO4
    have HB4 : Aside0 (Below B w3 w4) := ⟨((Below.refl _ _).alloc (by omega) _).trans hb4⟩
    obtain ⟨A4, k4, rfl⟩ := own_slice hO4.oS
    obtain ⟨m0, m1, m2⟩ := hO4.cell
    clear hO4 hb4
    go_wp2_with (fail)
    go_ret
    exact WordsPost.mk HO4.out (by rw [← HYS.out]; unfold wordsOf; rw [HNm.out, HA.out]; simp) (HBW.out.trans ((HB3.out.trans HB4.out).mono hgB.out)) hgB.out
  · -- two numbers
    have HA := Aside0.mk (HArgs.out.2.2.1 HK.out)
    go_wp2_with (first | (go_at_call 32; refine (bes_at HK.out _).mono ?_; rintro e w' ⟨rfl, rfl⟩))
    go_at_call 30
    refine (asm_tell [a, b] (some ⟨W2.heap.size, 0, none⟩) 2 B (B + 1) _ _ _ (by simp) (by simp) (by simp) (HO.out.alloc _) (fun m hm => by simp at hm; rcases hm with rfl | rfl; exact HX.out.a; exact HX.out.b) (fun h0 => ?_) (fun W hW => HLb.out W (((Below.refl _ _).alloc (by omega) _).trans hW))).mono ?_
    · refine ⟨_, rfl, by show W2.heap.size ≠ B + 1; omega, ?_, by simp, fun j hj => ?_⟩
      · intro e; have := own_lt HO.out.oS _ e; simp at this
      · obtain rfl | rfl : j = 0 ∨ j = 1 := by simp at hj; omega
        all_goals simp [World.cell?_alloc_new, Addr.add]
    rintro e w4 ⟨rfl, ⟨v4, hO4⟩, hb4⟩
    have HO4 := Aside0.mk hO4
    have HB4 : Aside0 (Below B W2 w4) := ⟨((Below.refl _ _).alloc (by omega) _).trans hb4⟩
    obtain ⟨A4, k4, rfl⟩ := own_slice hO4.oS
    obtain ⟨m0, m1, m2⟩ := hO4.cell
    clear hO4 hb4
    go_wp2_with (fail)
    go_ret
    exact WordsPost.mk HO4.out (by unfold wordsOf; rw [HNm.out, HA.out]; simp) (HBW.out.trans (HB4.out.mono hgB.out)) hgB.out
  · -- one number
    have HA := Aside0.mk (HArgs.out.2.2.2.1 HK.out)
    go_wp2_with (first | (go_at_call 32; refine (bes_at HK.out _).mono ?_; rintro e w' ⟨rfl, rfl⟩))
    go_at_call 30
    refine (asm_tell [a] (some ⟨W2.heap.size, 0, none⟩) 1 B (B + 1) _ _ _ (by simp) (by simp) (by simp) (HO.out.alloc _) (fun m hm => by rw [List.mem_singleton.1 hm]; exact HX.out.a) (fun h0 => ?_) (fun W hW => HLb.out W (((Below.refl _ _).alloc (by omega) _).trans hW))).mono ?_
    · refine ⟨_, rfl, by show W2.heap.size ≠ B + 1; omega, ?_, by simp, fun j hj => ?_⟩
      · intro e; have := own_lt HO.out.oS _ e; simp at this
      · obtain rfl : j = 0 := by simp at hj; omega
        simp [World.cell?_alloc_new, Addr.add]
    rintro e w4 ⟨rfl, ⟨v4, hO4⟩, hb4⟩
    have HO4 := Aside0.mk hO4
    have HB4 : Aside0 (Below B W2 w4) := ⟨((Below.refl _ _).alloc (by omega) _).trans hb4⟩
    obtain ⟨A4, k4, rfl⟩ := own_slice hO4.oS
    obtain ⟨m0, m1, m2⟩ := hO4.cell
    clear hO4 hb4
    go_wp2_with (fail)
    go_ret
    exact WordsPost.mk HO4.out (by unfold wordsOf; rw [HNm.out, HA.out]; simp) (HBW.out.trans (HB4.out.mono hgB.out)) hgB.out
  · -- nothing
    have HA := Aside0.mk (HArgs.out.2.2.2.2 HK.out)
    go_wp2_with (first | (go_at_call 32; refine (bes_at HK.out _).mono ?_; rintro e w' ⟨rfl, rfl⟩))
    go_ret
    exact WordsPost.mk HO.out (by unfold wordsOf; rw [HNm.out, HA.out]; rfl) HBW.out hgB.out
end Go.Proofs.YteaphfmgcpanmaaDoor
