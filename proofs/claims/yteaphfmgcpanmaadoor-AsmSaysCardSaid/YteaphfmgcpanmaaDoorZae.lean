/- A part of the proof: lemmas and walks that the last text of this claim uses. -/
import Derived.Test.YteaphfmgcpanmaaDoorZad
import Derived.RegionTactic
import Derived.BigRegion
import Derived.Deep.RegionLaw
import Derived.Deep.RegionWith

namespace Trp

def zIns : Ins := ⟨0, 0, 0, []⟩

theorem drop_cons (l : List Ins) (i : Nat) (h : i < l.length) : l.drop i = l.getD i zIns :: l.drop (i + 1) := by
  rw [List.drop_eq_getElem_cons h]
  simp [List.getD_eq_getElem?_getD, h]

/-- the reference's marks.seq: from place i on, within 'deep' blocks; its two lists before and behind; what it returns -/
inductive SeqR (l : List Ins) : Nat → Nat → List Int → List Int → List Int → List Int → Nat → Int → Prop
  | short {i deep E L} : l.length ≤ i → SeqR l i deep E L E L 0 3
  | bad {i deep E L} : i < l.length → insCheck (l.getD i zIns) ≠ 0 → SeqR l i deep E L E L 0 (insCheck (l.getD i zIns))
  | stop {i deep E L} : i < l.length → insCheck (l.getD i zIns) = 0 → ((l.getD i zIns).op = 5 ∨ (l.getD i zIns).op = 11) → SeqR l i deep E L E L i 0
  | plain {i deep E L E' L' j e} : i < l.length → insCheck (l.getD i zIns) = 0 → ¬ ((l.getD i zIns).op = 5 ∨ (l.getD i zIns).op = 11) →
      ((l.getD i zIns).op < 2 ∨ 4 < (l.getD i zIns).op) → SeqR l (i + 1) deep E L E' L' j e → SeqR l i deep E L E' L' j e
  | deep {i deep E L} : i < l.length → insCheck (l.getD i zIns) = 0 → 2 ≤ (l.getD i zIns).op → (l.getD i zIns).op ≤ 4 → deep = 12 → SeqR l i deep E L E L 0 7
  | inner {i deep E L E1 L1 j e} : i < l.length → insCheck (l.getD i zIns) = 0 → 2 ≤ (l.getD i zIns).op → (l.getD i zIns).op ≤ 4 → deep ≠ 12 →
      SeqR l (i + 1) (deep + 1) E L E1 L1 j e → e ≠ 0 → SeqR l i deep E L E1 L1 0 e
  | form {i deep E L E1 L1 j} : i < l.length → insCheck (l.getD i zIns) = 0 → 2 ≤ (l.getD i zIns).op → (l.getD i zIns).op ≤ 4 → deep ≠ 12 →
      SeqR l (i + 1) (deep + 1) E L E1 L1 j 0 → (l.getD j zIns).op = 5 → (l.getD i zIns).op ≠ 4 → SeqR l i deep E L E1 L1 0 4
  | block {i deep E L E1 L1 j E' L' j' e'} : i < l.length → insCheck (l.getD i zIns) = 0 → 2 ≤ (l.getD i zIns).op → (l.getD i zIns).op ≤ 4 → deep ≠ 12 →
      SeqR l (i + 1) (deep + 1) E L E1 L1 j 0 → (l.getD j zIns).op ≠ 5 →
      SeqR l (j + 1) deep ((E1.set i j).set j i) L1 E' L' j' e' → SeqR l i deep E L E' L' j' e'
  | inner2 {i deep E L E1 L1 j E2 L2 j2 e} : i < l.length → insCheck (l.getD i zIns) = 0 → (l.getD i zIns).op = 4 → deep ≠ 12 →
      SeqR l (i + 1) (deep + 1) E L E1 L1 j 0 → (l.getD j zIns).op = 5 → SeqR l (j + 1) (deep + 1) E1 L1 E2 L2 j2 e → e ≠ 0 → SeqR l i deep E L E2 L2 0 e
  | form2 {i deep E L E1 L1 j E2 L2 j2} : i < l.length → insCheck (l.getD i zIns) = 0 → (l.getD i zIns).op = 4 → deep ≠ 12 →
      SeqR l (i + 1) (deep + 1) E L E1 L1 j 0 → (l.getD j zIns).op = 5 → SeqR l (j + 1) (deep + 1) E1 L1 E2 L2 j2 0 → (l.getD j2 zIns).op = 5 → SeqR l i deep E L E2 L2 0 4
  | choice {i deep E L E1 L1 j E2 L2 j2 E' L' j' e'} : i < l.length → insCheck (l.getD i zIns) = 0 → (l.getD i zIns).op = 4 → deep ≠ 12 →
      SeqR l (i + 1) (deep + 1) E L E1 L1 j 0 → (l.getD j zIns).op = 5 → SeqR l (j + 1) (deep + 1) E1 L1 E2 L2 j2 0 → (l.getD j2 zIns).op ≠ 5 →
      SeqR l (j2 + 1) deep (((E2.set i j2).set j2 i).set j j2) ((L2.set i j).set j i) E' L' j' e' → SeqR l i deep E L E' L' j' e'

/-- what seq comes to, told of the walker -/
structure Went (l : List Ins) (i : Nat) (w : Wk) (E L E' L' : List Int) (j : Nat) : Prop where
  le : i ≤ j
  lt : j < l.length
  good : insCheck (l.getD j zIns) = 0
  ends : (l.getD j zIns).op = 5 ∨ (l.getD j zIns).op = 11
  run : nestRun (l.drop i) w i = nestRun (l.drop j) w j
  lenE : E'.length = E.length
  lenL : L'.length = L.length
  same : ∀ k, k < i ∨ j ≤ k → E'.getD k 0 = E.getD k 0 ∧ L'.getD k 0 = L.getD k 0
  mat : (∀ k, i ≤ k → k < l.length → E.getD k 0 = -1 ∧ L.getD k 0 = -1) → E.length = l.length → L.length = l.length → ∀ PE PL : List Int, PE.length = l.length → PL.length = l.length →
    ∃ PE' PL', matchRun (l.drop i) w i PE PL = matchRun (l.drop j) w j PE' PL' ∧ PE'.length = l.length ∧ PL'.length = l.length ∧
      (∀ k, k < i → PE'.getD k 0 = PE.getD k 0 ∧ PL'.getD k 0 = PL.getD k 0) ∧ (∀ k, i ≤ k → k < j → PE'.getD k 0 = E'.getD k 0 ∧ PL'.getD k 0 = L'.getD k 0)

theorem getD_set (E : List Int) (i k : Nat) (v : Int) (h : i < E.length) : (E.set i v).getD k 0 = if i = k then v else E.getD k 0 := by
  simp only [List.getD_eq_getElem?_getD, List.getElem?_set]
  split
  · subst_vars; simp
  · rfl

theorem getD_set2 (E : List Int) (a b k : Nat) (u v : Int) (ha : a < E.length) (hb : b < E.length) : ((E.set a u).set b v).getD k 0 = if b = k then v else if a = k then u else E.getD k 0 := by
  rw [getD_set _ _ _ _ (by rw [List.length_set]; exact hb), getD_set _ _ _ _ ha]
theorem getD_set3 (E : List Int) (a b c k : Nat) (u v x : Int) (ha : a < E.length) (hb : b < E.length) (hc : c < E.length) : (((E.set a u).set b v).set c x).getD k 0 = if c = k then x else if b = k then v else if a = k then u else E.getD k 0 := by
  rw [getD_set _ _ _ _ (by rw [List.length_set, List.length_set]; exact hc), getD_set2 _ _ _ _ _ _ ha hb]
theorem if_same_idx (j k : Nat) (a b c : Int) : (if j = k then a else if j = k then b else c) = if j = k then a else c := by
  by_cases h : j = k
  · rw [if_pos h, if_pos h]
  · rw [if_neg h, if_neg h, if_neg h]

theorem next_plain (w : Wk) (op pos : Int) (ho : w.over = false) (h5 : ¬ (op = 5 ∨ op = 11)) (h : op < 2 ∨ 4 < op) : w.next op pos = (w, -2, 0) := by
  unfold Wk.next
  rw [if_neg (by simp [ho]), if_neg (by omega), if_neg (by omega), if_neg (by omega)]

theorem next_block (w : Wk) (op pos : Int) (ho : w.over = false) (h2 : 2 ≤ op) (h4 : op ≤ 4) (hd : w.opens.length < 13) : w.next op pos = (⟨w.opens ++ [pos], w.last ++ [op], w.over⟩, -2, 0) := by
  unfold Wk.next
  rw [if_neg (by simp [ho]), if_pos (by omega), if_neg (by omega)]

theorem next_deep (w : Wk) (op pos : Int) (ho : w.over = false) (h2 : 2 ≤ op) (h4 : op ≤ 4) (hd : w.opens.length = 13) : w.next op pos = (w, -2, 7) := by
  unfold Wk.next
  rw [if_neg (by simp [ho]), if_pos (by omega), if_pos (by omega)]

theorem next_else (o la : List Int) (p q pos : Int) (hl : la.length = o.length) : (⟨o ++ [p], la ++ [q], false⟩ : Wk).next 5 pos =
    if q = 4 then (⟨o ++ [p], la ++ [5], false⟩, p, 0) else (⟨o ++ [p], la ++ [q], false⟩, -2, 4) := by
  unfold Wk.next
  rw [if_neg (by simp), if_neg (by omega), if_pos rfl]
  have h1 : (o ++ [p]).length - 1 = o.length := by simp
  simp only [h1]
  have h2 : (la ++ [q]).getD o.length 0 = q := by rw [← hl]; simp
  have h3 : (o ++ [p]).getD o.length 0 = p := by simp
  have h4 : (la ++ [q]).set o.length 5 = la ++ [5] := by rw [← hl]; simp
  rw [h2, h3, h4]
  by_cases hq : q = 4
  · rw [if_neg (by simp [hq]), if_pos hq]
  · rw [if_pos hq, if_neg hq]

theorem next_end (o la : List Int) (p q pos : Int) (hl : la.length = o.length) (ho : 0 < o.length) : (⟨o ++ [p], la ++ [q], false⟩ : Wk).next 11 pos = (⟨o, la, false⟩, p, 0) := by
  unfold Wk.next
  rw [if_neg (by simp), if_neg (by omega), if_neg (by omega), if_pos rfl]
  have h1 : (o ++ [p]).length - 1 = o.length := by simp
  simp only [h1]
  have h3 : (o ++ [p]).getD o.length 0 = p := by simp
  have h4 : (la ++ [q]).take o.length = la := by rw [← hl]; simp
  have h5 : (o ++ [p]).take o.length = o := by simp
  rw [h3, h4, h5]
  have : decide ((o ++ [p]).length = 1) = false := by simp; intro h; simp [h] at ho
  rw [this]

theorem run_step (l : List Ins) (i : Nat) (w : Wk) (h : i < l.length) (hc : insCheck (l.getD i zIns) = 0) (he : (w.next (l.getD i zIns).op i).2.2 = 0) :
    nestRun (l.drop i) w i = nestRun (l.drop (i + 1)) (w.next (l.getD i zIns).op i).1 (i + 1 : Nat) := by
  rw [drop_cons l i h, nestRun, if_neg (fun q => q hc), if_neg (fun q => q he)]
  rfl
theorem run_fail (l : List Ins) (i : Nat) (w : Wk) (h : i < l.length) (hc : insCheck (l.getD i zIns) = 0) (he : (w.next (l.getD i zIns).op i).2.2 ≠ 0) :
    nestRun (l.drop i) w i = (w.next (l.getD i zIns).op i).2.2 := by
  rw [drop_cons l i h, nestRun, if_neg (fun q => q hc), if_pos he]
theorem mat_step (l : List Ins) (i : Nat) (w : Wk) (h : i < l.length) (PE PL : List Int) :
    matchRun (l.drop i) w i PE PL = matchRun (l.drop (i + 1)) (w.next (l.getD i zIns).op i).1 (i + 1 : Nat) (matchStep (l.getD i zIns).op i (w.next (l.getD i zIns).op i).2.1 PE PL).1 (matchStep (l.getD i zIns).op i (w.next (l.getD i zIns).op i).2.1 PE PL).2 := by
  rw [drop_cons l i h, matchRun]
  rfl

/-- rounds of Match that only lay -1 -/
theorem step_plain (op : Int) (i : Nat) (is : Int) (PE PL : List Int) (h : op ≠ 5) (h' : op ≠ 11) : matchStep op i is PE PL = (PE.set i (-1), PL.set i (-1)) := by
  unfold matchStep
  simp [h, h']
theorem step_else (i k : Nat) (PE PL : List Int) : matchStep 5 i k PE PL = (PE.set i (-1), ((PL.set i (-1)).set i k).set k i) := by
  unfold matchStep
  simp
theorem step_end (i k : Nat) (PE PL : List Int) : matchStep 11 i k PE PL =
    if 0 ≤ (PL.set i (-1)).getD k 0 then ((((PE.set i (-1)).set i k).set k i).set ((PL.set i (-1)).getD k 0).toNat i, PL.set i (-1)) else (((PE.set i (-1)).set i k).set k i, PL.set i (-1)) := by
  unfold matchStep
  simp

theorem Went.one {l : List Ins} {i j : Nat} {w : Wk} {E L E' L' : List Int} (h : i < l.length) (hc : insCheck (l.getD i zIns) = 0) (hn : w.next (l.getD i zIns).op i = (w, -2, 0))
    (h5 : ¬ ((l.getD i zIns).op = 5 ∨ (l.getD i zIns).op = 11)) (g : Went l (i + 1) w E L E' L' j) : Went l i w E L E' L' j := by
  refine ⟨by have := g.le; omega, g.lt, g.good, g.ends, ?_, g.lenE, g.lenL, fun k hk => g.same k (by omega), ?_⟩
  · rw [run_step l i w h hc (by rw [hn]), hn]; exact g.run
  · intro hE hl1 hl2 PE PL hp1 hp2
    have ho5 : (l.getD i zIns).op ≠ 5 := fun e => h5 (.inl e)
    have ho11 : (l.getD i zIns).op ≠ 11 := fun e => h5 (.inr e)
    obtain ⟨PE', PL', he, h1, h2, hb, ha⟩ := g.mat (fun k hk hk' => hE k (by omega) hk') hl1 hl2 (PE.set i (-1)) (PL.set i (-1)) (by simp [hp1]) (by simp [hp2])
    refine ⟨PE', PL', ?_, h1, h2, fun k hk => ?_, fun k hk hk' => ?_⟩
    · rw [mat_step l i w h, hn, step_plain _ _ _ _ _ ho5 ho11]; exact he
    · have := hb k (by omega)
      rw [getD_set _ _ _ _ (by omega), getD_set _ _ _ _ (by omega), if_neg (by omega), if_neg (by omega)] at this
      exact this
    · by_cases hki : k = i
      · subst hki
        have h3 := hb k (by omega)
        rw [getD_set _ _ _ _ (by omega), getD_set _ _ _ _ (by omega), if_pos rfl, if_pos rfl] at h3
        have h4 := g.same k (by omega)
        have h5' := hE k (by omega) (by omega)
        rw [h3.1, h3.2, h4.1, h4.2]; exact ⟨h5'.1.symm, h5'.2.symm⟩
      · exact ha k (by omega) hk'

theorem Went.blocked {l : List Ins} {i j j' : Nat} {w : Wk} {E L E1 L1 E' L' : List Int} (h : i < l.length) (hc : insCheck (l.getD i zIns) = 0) (ho : w.over = false) (hl : w.last.length = w.opens.length) (h0 : 0 < w.opens.length) (hd : w.opens.length < 13)
    (h2 : 2 ≤ (l.getD i zIns).op) (h4 : (l.getD i zIns).op ≤ 4) (g : Went l (i + 1) ⟨w.opens ++ [(i : Int)], w.last ++ [(l.getD i zIns).op], false⟩ E L E1 L1 j) (h11 : (l.getD j zIns).op ≠ 5)
    (g' : Went l (j + 1) w ((E1.set i j).set j i) L1 E' L' j') : Went l i w E L E' L' j' := by
  have hw : (⟨w.opens, w.last, false⟩ : Wk) = w := by rw [← ho]
  have hn := next_block w (l.getD i zIns).op i ho h2 h4 hd
  rw [ho] at hn
  have hj11 : (l.getD j zIns).op = 11 := by have := g.ends; omega
  have hne := next_end w.opens w.last (i : Int) (l.getD i zIns).op (j : Int) hl h0
  rw [hw] at hne
  have gle := g.le
  have glt := g.lt
  have g'le := g'.le
  refine ⟨by omega, g'.lt, g'.good, g'.ends, ?_, by rw [g'.lenE]; simp [g.lenE], by rw [g'.lenL, g.lenL], fun k hk => ?_, ?_⟩
  · rw [run_step l i w h hc (by rw [hn]), hn, g.run, run_step l j _ g.lt g.good (by rw [hj11, hne]), hj11, hne]; exact g'.run
  · have h3 := g'.same k (by omega)
    have h5 := g.same k (by omega)
    rw [h3.1, h3.2, h5.2]
    refine ⟨?_, rfl⟩
    by_cases hE : j < E1.length
    · rw [getD_set _ _ _ _ (by simpa using hE), getD_set _ _ _ _ (by omega), if_neg (by omega), if_neg (by omega)]; exact h5.1
    · rw [List.set_eq_of_length_le (by simp; omega)]
      by_cases hE' : i < E1.length
      · rw [getD_set _ _ _ _ hE', if_neg (by omega)]; exact h5.1
      · rw [List.set_eq_of_length_le (by omega)]; exact h5.1
  · intro hE hl1 hl2 PE PL hp1 hp2
    have ho5 : (l.getD i zIns).op ≠ 5 := by omega
    have ho11 : (l.getD i zIns).op ≠ 11 := by omega
    obtain ⟨P1, Q1, he, h1, h2, hb, ha⟩ := g.mat (fun k hk hk' => hE k (by omega) hk') hl1 hl2 (PE.set i (-1)) (PL.set i (-1)) (by simp [hp1]) (by simp [hp2])
    have lE1 : E1.length = l.length := by rw [g.lenE, hl1]
    have lL1 : L1.length = l.length := by rw [g.lenL, hl2]
    have hbi := hb i (by omega)
    rw [getD_set _ _ _ _ (by omega), getD_set _ _ _ _ (by omega), if_pos rfl, if_pos rfl] at hbi
    obtain ⟨P2, Q2, he2, h12, h22, hb2, ha2⟩ := g'.mat (fun k hk hk' => by
        have hs := g.same k (by omega)
        have hz := hE k (by omega) hk'
        rw [getD_set _ _ _ _ (by simp; omega), getD_set _ _ _ _ (by omega), if_neg (by omega), if_neg (by omega), hs.1, hs.2]; exact hz)
      (by simp [lE1]) lL1 (((P1.set j (-1)).set j i).set i j) (Q1.set j (-1)) (by simp [h1]) (by simp [h2])
    have ex : ∀ k, (((P1.set j (-1)).set j (i : Int)).set i (j : Int)).getD k 0 = if i = k then (j : Int) else if j = k then (i : Int) else P1.getD k 0 := by
      intro k
      rw [getD_set _ _ _ _ (by simp; omega), getD_set _ _ _ _ (by simp; omega), getD_set _ _ _ _ (by omega)]
      by_cases hki : i = k
      · rw [if_pos hki, if_pos hki]
      · rw [if_neg hki, if_neg hki]
        by_cases hjk : j = k
        · rw [if_pos hjk, if_pos hjk]
        · rw [if_neg hjk, if_neg hjk, if_neg hjk]
    have ey : ∀ k, (Q1.set j (-1)).getD k 0 = if j = k then -1 else Q1.getD k 0 := fun k => getD_set _ _ _ _ (by omega)
    refine ⟨P2, Q2, ?_, h12, h22, fun k hk => ?_, fun k hk hk' => ?_⟩
    · rw [mat_step l i w h, hn, step_plain _ _ _ _ _ ho5 ho11, he, mat_step l j _ g.lt, hj11, hne, step_end, ey, if_neg (by rw [if_neg (by omega), hbi.2]; omega)]
      exact he2
    · have h3 := hb2 k (by omega)
      rw [ex, ey, if_neg (by omega), if_neg (by omega), if_neg (by omega)] at h3
      have h5 := hb k (by omega)
      rw [getD_set _ _ _ _ (by omega), getD_set _ _ _ _ (by omega), if_neg (by omega), if_neg (by omega)] at h5
      exact ⟨h3.1.trans h5.1, h3.2.trans h5.2⟩
    · by_cases hkj : k < j + 1
      · have h3 := hb2 k hkj
        have h5 := g'.same k (by omega)
        rw [h3.1, h3.2, h5.1, h5.2, ex, ey, getD_set _ _ _ _ (by simp; omega), getD_set _ _ _ _ (by omega)]
        by_cases hki : i = k
        · subst hki
          have hs := g.same i (by omega)
          have hz := hE i (by omega) h
          have hji : ¬ j = i := by omega
          rw [if_pos rfl, if_neg hji, if_neg hji, if_pos rfl, hbi.2, hs.2, hz.2]
          exact ⟨rfl, rfl⟩
        · by_cases hjk : j = k
          · subst hjk
            have hs := g.same j (by omega)
            have hz := hE j (by omega) glt
            rw [if_neg hki, if_pos rfl, if_pos rfl, if_pos rfl, hs.2, hz.2]
            exact ⟨rfl, rfl⟩
          · rw [if_neg hki, if_neg hjk, if_neg hjk, if_neg hjk, if_neg hki]
            exact ha k (by omega) (by omega)
      · exact ha2 k (by omega) hk'

theorem chosen_e {p0 p1 p2 p3 e1 e2 e' : Nat → Int} {i j j2 j' : Nat} (hij : i + 1 ≤ j) (hj : j + 1 ≤ j2)
    (hb1 : ∀ k, k < i + 1 → p1 k = if i = k then -1 else p0 k) (ha1 : ∀ k, i + 1 ≤ k → k < j → p1 k = e1 k)
    (hb2 : ∀ k, k < j + 1 → p2 k = if j = k then -1 else p1 k) (ha2 : ∀ k, j + 1 ≤ k → k < j2 → p2 k = e2 k)
    (hb3 : ∀ k, k < j2 + 1 → p3 k = if j = k then (j2 : Int) else if i = k then (j2 : Int) else if j2 = k then (i : Int) else p2 k) (ha3 : ∀ k, j2 + 1 ≤ k → k < j' → p3 k = e' k)
    (s3 : ∀ k, k < j2 + 1 → e' k = if j = k then (j2 : Int) else if j2 = k then (i : Int) else if i = k then (j2 : Int) else e2 k) (s2 : ∀ k, k < j + 1 → e2 k = e1 k) :
    (∀ k, k < i → p3 k = p0 k) ∧ (∀ k, i ≤ k → k < j' → p3 k = e' k) := by
  constructor
  · intro k hk
    rw [hb3 k (by omega), if_neg (by omega), if_neg (by omega), if_neg (by omega), hb2 k (by omega), if_neg (by omega), hb1 k (by omega), if_neg (by omega)]
  · intro k hk hk'
    by_cases h1 : k < j2 + 1
    · rw [hb3 k h1, s3 k h1]
      by_cases c1 : j = k
      · rw [if_pos c1, if_pos c1]
      · rw [if_neg c1, if_neg c1]
        by_cases c2 : i = k
        · have c3 : ¬ j2 = k := by omega
          rw [if_pos c2, if_neg c3, if_pos c2]
        · rw [if_neg c2, if_neg c2]
          by_cases c3 : j2 = k
          · rw [if_pos c3, if_pos c3]
          · rw [if_neg c3, if_neg c3]
            by_cases c4 : k < j + 1
            · rw [hb2 k c4, if_neg c1, s2 k c4]; exact ha1 k (by omega) (by omega)
            · exact ha2 k (by omega) (by omega)
    · exact ha3 k (by omega) hk'

theorem chosen_l {q0 q1 q2 q3 l1 l2 l' : Nat → Int} {i j j2 j' : Nat} (hij : i + 1 ≤ j) (hj : j + 1 ≤ j2)
    (hb1 : ∀ k, k < i + 1 → q1 k = if i = k then -1 else q0 k) (ha1 : ∀ k, i + 1 ≤ k → k < j → q1 k = l1 k)
    (hb2 : ∀ k, k < j + 1 → q2 k = if i = k then (j : Int) else if j = k then (i : Int) else q1 k) (ha2 : ∀ k, j + 1 ≤ k → k < j2 → q2 k = l2 k)
    (hb3 : ∀ k, k < j2 + 1 → q3 k = if j2 = k then -1 else q2 k) (ha3 : ∀ k, j2 + 1 ≤ k → k < j' → q3 k = l' k)
    (s3 : ∀ k, k < j2 + 1 → l' k = if j = k then (i : Int) else if i = k then (j : Int) else l2 k) (s2 : ∀ k, k < j + 1 → l2 k = l1 k) (z2 : l2 j2 = -1) :
    (∀ k, k < i → q3 k = q0 k) ∧ (∀ k, i ≤ k → k < j' → q3 k = l' k) := by
  constructor
  · intro k hk
    rw [hb3 k (by omega), if_neg (by omega), hb2 k (by omega), if_neg (by omega), if_neg (by omega), hb1 k (by omega), if_neg (by omega)]
  · intro k hk hk'
    by_cases h1 : k < j2 + 1
    · rw [hb3 k h1, s3 k h1]
      by_cases c3 : j2 = k
      · subst c3
        have c1 : ¬ j = j2 := by omega
        have c2 : ¬ i = j2 := by omega
        rw [if_pos rfl, if_neg c1, if_neg c2, z2]
      · rw [if_neg c3]
        by_cases c4 : k < j + 1
        · rw [hb2 k c4]
          by_cases c1 : j = k
          · have c2 : ¬ i = k := by omega
            rw [if_neg c2, if_pos c1, if_pos c1]
          · rw [if_neg c1, if_neg c1]
            by_cases c2 : i = k
            · rw [if_pos c2, if_pos c2]
            · rw [if_neg c2, if_neg c2, s2 k c4]; exact ha1 k (by omega) (by omega)
        · have c1 : ¬ j = k := by omega
          have c2 : ¬ i = k := by omega
          rw [if_neg c1, if_neg c2]; exact ha2 k (by omega) (by omega)
    · exact ha3 k (by omega) hk'

set_option maxHeartbeats 1000000 in
theorem Went.chosen {l : List Ins} {i j j2 j' : Nat} {w : Wk} {E L E1 L1 E2 L2 E' L' : List Int} (h : i < l.length) (hc : insCheck (l.getD i zIns) = 0) (ho : w.over = false) (hl : w.last.length = w.opens.length) (h0 : 0 < w.opens.length) (hd : w.opens.length < 13)
    (h4 : (l.getD i zIns).op = 4) (g : Went l (i + 1) ⟨w.opens ++ [(i : Int)], w.last ++ [4], false⟩ E L E1 L1 j) (h5 : (l.getD j zIns).op = 5)
    (gg : Went l (j + 1) ⟨w.opens ++ [(i : Int)], w.last ++ [5], false⟩ E1 L1 E2 L2 j2) (h11 : (l.getD j2 zIns).op ≠ 5)
    (g' : Went l (j2 + 1) w (((E2.set i j2).set j2 i).set j j2) ((L2.set i j).set j i) E' L' j') : Went l i w E L E' L' j' := by
  have hw : (⟨w.opens, w.last, false⟩ : Wk) = w := by rw [← ho]
  have hn := next_block w 4 i ho (by omega) (by omega) hd
  rw [ho] at hn
  have hj11 : (l.getD j2 zIns).op = 11 := by have := gg.ends; omega
  have hne := next_end w.opens w.last (i : Int) 5 (j2 : Int) hl h0
  rw [hw] at hne
  have hnl := next_else w.opens w.last (i : Int) 4 (j : Int) hl
  rw [if_pos rfl] at hnl
  have gle := g.le
  have glt := g.lt
  have ggle := gg.le
  have gglt := gg.lt
  have g'le := g'.le
  have hij : i + 1 ≤ j2 := by omega
  have lset : ∀ k, k < i ∨ j2 + 1 ≤ k → (((E2.set i (j2 : Int)).set j2 (i : Int)).set j (j2 : Int)).getD k 0 = E2.getD k 0 ∧ ((L2.set i (j : Int)).set j (i : Int)).getD k 0 = L2.getD k 0 := by
    clear hn hne hnl hw
    intro k hk
    simp only [List.getD_eq_getElem?_getD]
    rw [List.getElem?_set_ne (by omega), List.getElem?_set_ne (by omega), List.getElem?_set_ne (by omega), List.getElem?_set_ne (by omega), List.getElem?_set_ne (by omega)]
    exact ⟨rfl, rfl⟩
  refine ⟨by omega, g'.lt, g'.good, g'.ends, ?_, by rw [g'.lenE]; simp [gg.lenE, g.lenE], by rw [g'.lenL]; simp [gg.lenL, g.lenL], fun k hk => ?_, ?_⟩
  · rw [run_step l i w h hc (by rw [h4, hn]), h4, hn, g.run, run_step l j _ g.lt g.good (by rw [h5, hnl]), h5, hnl, gg.run, run_step l j2 _ gg.lt gg.good (by rw [hj11, hne]), hj11, hne]; exact g'.run
  · have k1 : k < j2 + 1 ∨ j' ≤ k := by omega
    have k2 : k < j + 1 ∨ j2 ≤ k := by omega
    have k3 : k < i + 1 ∨ j ≤ k := by omega
    have k4 : k < i ∨ j2 + 1 ≤ k := by omega
    have h3 := g'.same k k1
    have h6 := gg.same k k2
    have h7 := g.same k k3
    have h8 := lset k k4
    rw [h3.1, h3.2, h8.1, h8.2, h6.1, h6.2]; exact h7
  · intro hE hl1 hl2 PE PL hp1 hp2
    obtain ⟨P1, Q1, he, h1, h2, hb, ha⟩ := g.mat (fun k hk hk' => hE k (Nat.le_of_succ_le hk) hk') hl1 hl2 (PE.set i (-1)) (PL.set i (-1)) (by rw [List.length_set, hp1]) (by rw [List.length_set, hp2])
    have lE1 : E1.length = l.length := g.lenE.trans hl1
    have lL1 : L1.length = l.length := g.lenL.trans hl2
    have lE2 : E2.length = l.length := gg.lenE.trans lE1
    have lL2 : L2.length = l.length := gg.lenL.trans lL1
    have z1 : ∀ k, j ≤ k → k < l.length → E1.getD k 0 = -1 ∧ L1.getD k 0 = -1 := fun k hk hk' => by
      have hs := g.same k (.inr hk)
      rw [hs.1, hs.2]; exact hE k (Nat.le_trans (Nat.le_of_succ_le gle) hk) hk'
    obtain ⟨P2, Q2, he2, h12, h22, hb2, ha2⟩ := gg.mat (fun k hk hk' => z1 k (Nat.le_of_succ_le hk) hk') lE1 lL1 (P1.set j (-1)) (((Q1.set j (-1)).set j i).set i j) (by rw [List.length_set, h1]) (by rw [List.length_set, List.length_set, List.length_set, h2])
    have z2 : ∀ k, j2 ≤ k → k < l.length → E2.getD k 0 = -1 ∧ L2.getD k 0 = -1 := fun k hk hk' => by
      have hs := gg.same k (.inr hk)
      rw [hs.1, hs.2]; exact z1 k (Nat.le_trans (Nat.le_of_succ_le ggle) hk) hk'
    have ey : ∀ k, (((Q1.set j (-1)).set j (i : Int)).set i (j : Int)).getD k 0 = if i = k then (j : Int) else if j = k then (i : Int) else Q1.getD k 0 := fun k => by
      rw [getD_set3 _ _ _ _ _ _ _ _ (h2 ▸ glt) (h2 ▸ glt) (h2 ▸ h), if_same_idx]
    have ex : ∀ k, (P1.set j (-1)).getD k 0 = if j = k then -1 else P1.getD k 0 := fun k => getD_set _ _ _ _ (h1 ▸ glt)
    obtain ⟨P3, Q3, he3, h13, h23, hb3, ha3⟩ := g'.mat (fun k hk hk' => by
        have h8 := lset k (.inr hk)
        rw [h8.1, h8.2]; exact z2 k (Nat.le_of_succ_le hk) hk')
      (by rw [List.length_set, List.length_set, List.length_set, lE2]) (by rw [List.length_set, List.length_set, lL2]) ((((P2.set j2 (-1)).set j2 i).set i j2).set j j2) (Q2.set j2 (-1)) (by rw [List.length_set, List.length_set, List.length_set, List.length_set, h12]) (by rw [List.length_set, h22])
    have iP2 : i < P2.length := h12 ▸ h
    have jP2 : j < P2.length := h12 ▸ glt
    have j2P2 : j2 < P2.length := h12 ▸ gglt
    have ex3 : ∀ k, ((((P2.set j2 (-1)).set j2 (i : Int)).set i (j2 : Int)).set j (j2 : Int)).getD k 0 = if j = k then (j2 : Int) else if i = k then (j2 : Int) else if j2 = k then (i : Int) else P2.getD k 0 := fun k => by
      rw [getD_set3 (P2.set j2 (-1)) j2 i j k i j2 j2 (by rw [List.length_set]; exact j2P2) (by rw [List.length_set]; exact iP2) (by rw [List.length_set]; exact jP2), getD_set P2 j2 k (-1) j2P2, if_same_idx]
    have ey3 : ∀ k, (Q2.set j2 (-1)).getD k 0 = if j2 = k then -1 else Q2.getD k 0 := fun k => getD_set _ _ _ _ (h22 ▸ gglt)
    have sE : ∀ k, (((E2.set i (j2 : Int)).set j2 (i : Int)).set j (j2 : Int)).getD k 0 = if j = k then (j2 : Int) else if j2 = k then (i : Int) else if i = k then (j2 : Int) else E2.getD k 0 := fun k =>
      getD_set3 _ _ _ _ _ _ _ _ (lE2 ▸ h) (lE2 ▸ gglt) (lE2 ▸ glt)
    have sL : ∀ k, ((L2.set i (j : Int)).set j (i : Int)).getD k 0 = if j = k then (i : Int) else if i = k then (j : Int) else L2.getD k 0 := fun k =>
      getD_set2 _ _ _ _ _ _ (lL2 ▸ h) (lL2 ▸ glt)
    have cE := chosen_e (p0 := fun k => PE.getD k 0) (p1 := fun k => P1.getD k 0) (p2 := fun k => P2.getD k 0) (p3 := fun k => P3.getD k 0) (e1 := fun k => E1.getD k 0) (e2 := fun k => E2.getD k 0) (e' := fun k => E'.getD k 0) (i := i) (j := j) (j2 := j2) (j' := j') gle ggle
      (fun k hk => (hb k hk).1.trans (getD_set _ _ _ _ (hp1 ▸ h))) (fun k hk hk' => (ha k hk hk').1) (fun k hk => (hb2 k hk).1.trans (ex k)) (fun k hk hk' => (ha2 k hk hk').1) (fun k hk => (hb3 k hk).1.trans (ex3 k)) (fun k hk hk' => (ha3 k hk hk').1)
      (fun k hk => (g'.same k (.inl hk)).1.trans (sE k)) (fun k hk => (gg.same k (.inl hk)).1)
    have cL := chosen_l (q0 := fun k => PL.getD k 0) (q1 := fun k => Q1.getD k 0) (q2 := fun k => Q2.getD k 0) (q3 := fun k => Q3.getD k 0) (l1 := fun k => L1.getD k 0) (l2 := fun k => L2.getD k 0) (l' := fun k => L'.getD k 0) (i := i) (j := j) (j2 := j2) (j' := j') gle ggle
      (fun k hk => (hb k hk).2.trans (getD_set _ _ _ _ (hp2 ▸ h))) (fun k hk hk' => (ha k hk hk').2) (fun k hk => (hb2 k hk).2.trans (ey k)) (fun k hk hk' => (ha2 k hk hk').2) (fun k hk => (hb3 k hk).2.trans (ey3 k)) (fun k hk hk' => (ha3 k hk hk').2)
      (fun k hk => (g'.same k (.inl hk)).2.trans (sL k)) (fun k hk => (gg.same k (.inl hk)).2) (z2 j2 (Nat.le_refl _) gglt).2
    have q2i : Q2.getD i 0 = j := by
      have hi1 : i < j + 1 := Nat.lt_succ_of_lt gle
      rw [(hb2 i hi1).2, ey, if_pos rfl]
    have hji : ¬ j2 = i := by clear hn hne hnl hw; omega
    refine ⟨P3, Q3, ?_, h13, h23, fun k hk => ⟨cE.1 k hk, cL.1 k hk⟩, fun k hk hk' => ⟨cE.2 k hk hk', cL.2 k hk hk'⟩⟩
    rw [mat_step l i w h, h4, hn, step_plain _ _ _ _ _ (by decide) (by decide), he, mat_step l j _ g.lt, h5, hnl, step_else, he2, mat_step l j2 _ gg.lt, hj11, hne, step_end, ey3, if_neg hji, q2i, if_pos (Int.natCast_nonneg j)]
    exact he3

theorem seq_went {l : List Ins} {i deep : Nat} {E L E' L' : List Int} {j : Nat} {e : Int} (h : SeqR l i deep E L E' L' j e) :
    ∀ w : Wk, w.over = false → w.opens.length = deep + 1 → w.last.length = deep + 1 → deep ≤ 12 → (e ≠ 0 → nestRun (l.drop i) w i = e) ∧ (e = 0 → Went l i w E L E' L' j) := by
  induction h with
  | short h1 =>
    intro w ho _ _ _
    refine ⟨fun _ => ?_, fun h => absurd h (by decide)⟩
    rw [List.drop_eq_nil_of_le h1, nestRun, if_neg (by simp [ho])]
  | @bad i deep E L h1 h2 =>
    intro w _ _ _ _
    refine ⟨fun _ => ?_, fun h => absurd h h2⟩
    rw [drop_cons l i h1, nestRun, if_pos h2]
  | stop h1 h2 h3 =>
    intro w _ _ _ _
    refine ⟨fun h => absurd rfl h, fun _ => ⟨Nat.le_refl _, h1, h2, h3, rfl, rfl, rfl, fun _ _ => ⟨rfl, rfl⟩, fun _ _ _ PE PL hp1 hp2 => ⟨PE, PL, rfl, hp1, hp2, fun _ _ => ⟨rfl, rfl⟩, fun k hk hk' => absurd hk (by omega)⟩⟩⟩
  | @plain i deep E L E' L' j e h1 h2 h3 h4 _ ih =>
    intro w ho hw hla hd
    have hn := next_plain w (l.getD i zIns).op i ho h3 h4
    obtain ⟨ih1, ih2⟩ := ih w ho hw hla hd
    refine ⟨fun he => ?_, fun he => (ih2 he).one h1 h2 hn h3⟩
    rw [run_step l i w h1 h2 (by rw [hn]), hn]; exact ih1 he
  | @deep i deep E L h1 h2 h3 h4 h5 =>
    intro w ho hw _ _
    have hn := next_deep w (l.getD i zIns).op i ho h3 h4 (by omega)
    refine ⟨fun _ => ?_, fun h => absurd h (by decide)⟩
    rw [run_fail l i w h1 h2 (by rw [hn]; exact (by decide : (7 : Int) ≠ 0)), hn]
  | @inner i deep E L E1 L1 j e h1 h2 h3 h4 h5 _ he ih =>
    intro w ho hw hla hd
    have hn := next_block w (l.getD i zIns).op i ho h3 h4 (by omega)
    rw [ho] at hn
    obtain ⟨ih1, _⟩ := ih ⟨w.opens ++ [(i : Int)], w.last ++ [(l.getD i zIns).op], false⟩ rfl (by simp [hw]) (by simp [hla]) (by omega)
    refine ⟨fun _ => ?_, fun h => absurd h he⟩
    rw [run_step l i w h1 h2 (by rw [hn]), hn]; exact ih1 he
  | @form i deep E L E1 L1 j h1 h2 h3 h4 h5 _ h6 h7 ih =>
    intro w ho hw hla hd
    have hn := next_block w (l.getD i zIns).op i ho h3 h4 (by omega)
    rw [ho] at hn
    obtain ⟨_, ih2⟩ := ih ⟨w.opens ++ [(i : Int)], w.last ++ [(l.getD i zIns).op], false⟩ rfl (by simp [hw]) (by simp [hla]) (by omega)
    have g := ih2 rfl
    have hnl := next_else w.opens w.last (i : Int) (l.getD i zIns).op (j : Int) (by omega)
    rw [if_neg h7] at hnl
    refine ⟨fun _ => ?_, fun h => absurd h (by decide)⟩
    rw [run_step l i w h1 h2 (by rw [hn]), hn]
    refine g.run.trans ?_
    rw [run_fail l j _ g.lt g.good (by rw [h6, hnl]; exact (by decide : (4 : Int) ≠ 0)), h6, hnl]
  | @block i deep E L E1 L1 j E' L' j' e' h1 h2 h3 h4 h5 _ h6 _ ih ih' =>
    intro w ho hw hla hd
    have hn := next_block w (l.getD i zIns).op i ho h3 h4 (by omega)
    rw [ho] at hn
    obtain ⟨_, ih2⟩ := ih ⟨w.opens ++ [(i : Int)], w.last ++ [(l.getD i zIns).op], false⟩ rfl (by simp [hw]) (by simp [hla]) (by omega)
    have g := ih2 rfl
    obtain ⟨k1, k2⟩ := ih' w ho hw hla hd
    refine ⟨fun he => ?_, fun he => g.blocked h1 h2 ho (by omega) (by omega) (by omega) h3 h4 h6 (k2 he)⟩
    have hw' : (⟨w.opens, w.last, false⟩ : Wk) = w := by rw [← ho]
    have hj11 : (l.getD j zIns).op = 11 := by have := g.ends; omega
    have hne := next_end w.opens w.last (i : Int) (l.getD i zIns).op (j : Int) (by omega) (by omega)
    rw [hw'] at hne
    rw [run_step l i w h1 h2 (by rw [hn]), hn]
    refine g.run.trans ?_
    rw [run_step l j _ g.lt g.good (by rw [hj11, hne]), hj11, hne]; exact k1 he
  | @inner2 i deep E L E1 L1 j E2 L2 j2 e h1 h2 h4 h5 _ h6 _ he ih ih' =>
    intro w ho hw hla hd
    have hn := next_block w (l.getD i zIns).op i ho (by omega) (by omega) (by omega)
    rw [ho] at hn
    obtain ⟨_, ih2⟩ := ih ⟨w.opens ++ [(i : Int)], w.last ++ [(l.getD i zIns).op], false⟩ rfl (by simp [hw]) (by simp [hla]) (by omega)
    have g := ih2 rfl
    obtain ⟨k1, _⟩ := ih' ⟨w.opens ++ [(i : Int)], w.last ++ [5], false⟩ rfl (by simp [hw]) (by simp [hla]) (by omega)
    have hnl := next_else w.opens w.last (i : Int) (l.getD i zIns).op (j : Int) (by omega)
    rw [if_pos h4] at hnl
    refine ⟨fun _ => ?_, fun h => absurd h he⟩
    rw [run_step l i w h1 h2 (by rw [hn]), hn]
    refine g.run.trans ?_
    rw [run_step l j _ g.lt g.good (by rw [h6, hnl]), h6, hnl]; exact k1 he
  | @form2 i deep E L E1 L1 j E2 L2 j2 h1 h2 h4 h5 _ h6 _ h7 ih ih' =>
    intro w ho hw hla hd
    have hn := next_block w (l.getD i zIns).op i ho (by omega) (by omega) (by omega)
    rw [ho] at hn
    obtain ⟨_, ih2⟩ := ih ⟨w.opens ++ [(i : Int)], w.last ++ [(l.getD i zIns).op], false⟩ rfl (by simp [hw]) (by simp [hla]) (by omega)
    have g := ih2 rfl
    obtain ⟨_, k2⟩ := ih' ⟨w.opens ++ [(i : Int)], w.last ++ [5], false⟩ rfl (by simp [hw]) (by simp [hla]) (by omega)
    have g2 := k2 rfl
    have hnl := next_else w.opens w.last (i : Int) (l.getD i zIns).op (j : Int) (by omega)
    rw [if_pos h4] at hnl
    have hnl2 := next_else w.opens w.last (i : Int) 5 (j2 : Int) (by omega)
    rw [if_neg (by decide)] at hnl2
    refine ⟨fun _ => ?_, fun h => absurd h (by decide)⟩
    rw [run_step l i w h1 h2 (by rw [hn]), hn]
    refine g.run.trans ?_
    rw [run_step l j _ g.lt g.good (by rw [h6, hnl]), h6, hnl]
    refine g2.run.trans ?_
    rw [run_fail l j2 _ g2.lt g2.good (by rw [h7, hnl2]; exact (by decide : (4 : Int) ≠ 0)), h7, hnl2]
  | @choice i deep E L E1 L1 j E2 L2 j2 E' L' j' e' h1 h2 h4 h5 _ h6 _ h7 _ ih ih' ih'' =>
    intro w ho hw hla hd
    have hn := next_block w (l.getD i zIns).op i ho (by omega) (by omega) (by omega)
    rw [ho] at hn
    obtain ⟨_, ih2⟩ := ih ⟨w.opens ++ [(i : Int)], w.last ++ [(l.getD i zIns).op], false⟩ rfl (by simp [hw]) (by simp [hla]) (by omega)
    have g := ih2 rfl
    obtain ⟨_, k2⟩ := ih' ⟨w.opens ++ [(i : Int)], w.last ++ [5], false⟩ rfl (by simp [hw]) (by simp [hla]) (by omega)
    have g2 := k2 rfl
    obtain ⟨m1, m2⟩ := ih'' w ho hw hla hd
    refine ⟨fun he => ?_, fun he => Went.chosen h1 h2 ho (by omega) (by omega) (by omega) h4 (by rw [h4] at g; exact g) h6 g2 h7 (m2 he)⟩
    have hw' : (⟨w.opens, w.last, false⟩ : Wk) = w := by rw [← ho]
    have hj11 : (l.getD j2 zIns).op = 11 := by have := g2.ends; omega
    have hne := next_end w.opens w.last (i : Int) 5 (j2 : Int) (by omega) (by omega)
    rw [hw'] at hne
    have hnl := next_else w.opens w.last (i : Int) (l.getD i zIns).op (j : Int) (by omega)
    rw [if_pos h4] at hnl
    rw [run_step l i w h1 h2 (by rw [hn]), hn]
    refine g.run.trans ?_
    rw [run_step l j _ g.lt g.good (by rw [h6, hnl]), h6, hnl]
    refine g2.run.trans ?_
    rw [run_step l j2 _ g2.lt g2.good (by rw [hj11, hne]), hj11, hne]; exact m1 he

theorem begin_end (pos : Int) : Wk.begin.next 11 pos = (⟨[], [], true⟩, -1, 0) := by
  unfold Wk.begin Wk.next
  rw [if_neg (by decide), if_neg (by decide), if_neg (by decide), if_pos rfl]
  rfl

theorem run_over (l : List Ins) (i : Nat) (h : i < l.length) (o la : List Int) : nestRun (l.drop i) ⟨o, la, true⟩ i = if insCheck (l.getD i zIns) ≠ 0 then insCheck (l.getD i zIns) else 4 := by
  rw [drop_cons l i h, nestRun]
  by_cases hc : insCheck (l.getD i zIns) ≠ 0
  · rw [if_pos hc, if_pos hc]
  · rw [if_neg hc, if_neg hc]
    have : ((⟨o, la, true⟩ : Wk).next (l.getD i zIns).op i).2.2 = 4 := by unfold Wk.next; rw [if_pos rfl]
    rw [this, if_pos (by decide)]

/-- what the reference's whole look comes to -/
theorem nest_all {l : List Ins} {E L : List Int} {j : Nat} {e : Int} (hl : l.length ≤ 200) (h : SeqR l 0 0 (List.replicate l.length (-1)) (List.replicate l.length (-1)) E L j e) :
    (e ≠ 0 → nestCheck l = e) ∧ (e = 0 → (l.getD j zIns).op = 5 → nestCheck l = 4) ∧
    (e = 0 → (l.getD j zIns).op ≠ 5 → j + 1 = l.length → nestCheck l = 0 ∧ nestEnds l = E ∧ nestElses l = L) ∧
    (e = 0 → (l.getD j zIns).op ≠ 5 → j + 1 < l.length → nestCheck l = if insCheck (l.getD (j + 1) zIns) ≠ 0 then insCheck (l.getD (j + 1) zIns) else 4) ∧ (e = 0 → j < l.length) := by
  obtain ⟨h1, h2⟩ := seq_went h Wk.begin rfl rfl rfl (by omega)
  have hc : nestCheck l = nestRun (l.drop 0) Wk.begin (0 : Nat) := by unfold nestCheck; rw [if_neg (by omega)]; rfl
  have hb5 : ∀ pos : Int, Wk.begin.next 5 pos = (Wk.begin, -2, 4) := fun pos => by
    unfold Wk.begin Wk.next
    rw [if_neg (by decide), if_neg (by decide), if_pos rfl]
    rfl
  refine ⟨fun he => hc.trans (h1 he), fun he h5 => ?_, fun he h5 hj => ?_, fun he h5 hj => ?_, fun he => (h2 he).lt⟩
  · have g := h2 he
    rw [hc, g.run, run_fail l j _ g.lt g.good (by rw [h5, hb5]; decide), h5, hb5]
  · have g := h2 he
    have h11 : (l.getD j zIns).op = 11 := by have := g.ends; omega
    have hz : nestCheck l = 0 := by
      rw [hc, g.run, run_step l j _ g.lt g.good (by rw [h11, begin_end]), h11, begin_end, List.drop_eq_nil_of_le (by omega)]
      rfl
    refine ⟨hz, ?_⟩
    have z : ∀ k, (List.replicate l.length (-1 : Int)).getD k 0 = if k < l.length then -1 else 0 := fun k => by
      simp only [List.getD_eq_getElem?_getD, List.getElem?_replicate]
      by_cases hk : k < l.length
      · rw [if_pos hk, if_pos hk]; rfl
      · rw [if_neg hk, if_neg hk]; rfl
    obtain ⟨P, Q, he1, l1, l2, _, ha⟩ := g.mat (fun k _ hk => by rw [z, if_pos hk]; exact ⟨rfl, rfl⟩) (by simp) (by simp) (List.replicate l.length 0) (List.replicate l.length 0) (by simp) (by simp)
    have hm : matchRun l Wk.begin 0 (List.replicate l.length 0) (List.replicate l.length 0) = ((P.set j (-1)).set j (-1), Q.set j (-1)) := by
      have e0 : matchRun l Wk.begin 0 (List.replicate l.length 0) (List.replicate l.length 0) = matchRun (l.drop 0) Wk.begin (0 : Nat) (List.replicate l.length 0) (List.replicate l.length 0) := rfl
      rw [e0, he1, mat_step l j _ g.lt, h11, begin_end, List.drop_eq_nil_of_le (by omega), matchRun]
      unfold matchStep
      simp
    have lE : E.length = l.length := g.lenE.trans (by simp)
    have lL : L.length = l.length := g.lenL.trans (by simp)
    have ex : ∀ k, k < l.length → ((P.set j (-1)).set j (-1)).getD k 0 = E.getD k 0 ∧ (Q.set j (-1)).getD k 0 = L.getD k 0 := by
      intro k hk
      have glt := g.lt
      rw [getD_set2 _ _ _ _ _ _ (l1 ▸ glt) (l1 ▸ glt), getD_set _ _ _ _ (l2 ▸ glt), if_same_idx]
      by_cases hjk : j = k
      · subst hjk
        have hs := g.same j (.inr (Nat.le_refl _))
        rw [if_pos rfl, if_pos rfl, hs.1, hs.2, z, if_pos hk]
        exact ⟨rfl, rfl⟩
      · rw [if_neg hjk, if_neg hjk]
        exact ha k (Nat.zero_le _) (by omega)
    have ext : ∀ A B : List Int, A.length = l.length → B.length = l.length → (∀ k, k < l.length → A.getD k 0 = B.getD k 0) → A = B := by
      intro A B hA hB hk
      apply List.ext_getElem (hA.trans hB.symm)
      intro k h1 h2
      have := hk k (hA ▸ h1)
      simpa [List.getD_eq_getElem?_getD, h1, h2] using this
    unfold nestEnds nestElses
    rw [if_neg (fun q => q hz), if_neg (fun q => q hz), hm]
    exact ⟨ext _ _ (by simp [l1]) lE fun k hk => (ex k hk).1, ext _ _ (by simp [l2]) lL fun k hk => (ex k hk).2⟩
  · have g := h2 he
    have h11 : (l.getD j zIns).op = 11 := by have := g.ends; omega
    rw [hc, g.run, run_step l j _ g.lt g.good (by rw [h11, begin_end]), h11, begin_end]
    exact run_over l (j + 1) hj [] []

def Wk.Good (w : Wk) : Prop := w.last.length = w.opens.length ∧ (w.over = false → 0 < w.opens.length)
theorem Wk.begin_good : Wk.begin.Good := ⟨rfl, fun _ => by decide⟩
theorem Wk.next_good {w : Wk} (h : w.Good) (op pos : Int) : (w.next op pos).1.Good := by
  obtain ⟨h1, h2⟩ := h
  unfold Wk.next
  by_cases ho : w.over = true
  · rw [if_pos ho]; exact ⟨h1, h2⟩
  · have h3 := h2 (by simpa using ho)
    rw [if_neg ho]
    by_cases c1 : op = 2 ∨ op = 3 ∨ op = 4
    · rw [if_pos c1]
      by_cases c2 : 13 ≤ w.opens.length
      · rw [if_pos c2]; exact ⟨h1, h2⟩
      · rw [if_neg c2]; exact ⟨by simp [h1], fun _ => by simp⟩
    · rw [if_neg c1]
      by_cases c3 : op = 5
      · rw [if_pos c3]
        by_cases c4 : w.last.getD (w.opens.length - 1) 0 ≠ 4
        · rw [if_pos c4]; exact ⟨h1, h2⟩
        · rw [if_neg c4]; exact ⟨by simp [h1], fun _ => h3⟩
      · rw [if_neg c3]
        by_cases c5 : op = 11
        · rw [if_pos c5]
          refine ⟨by simp [h1], fun hd => ?_⟩
          simp only [decide_eq_false_iff_not] at hd
          simp
          omega
        · rw [if_neg c5]; exact ⟨h1, h2⟩

theorem nestRun_cons (l : List Ins) (i : Nat) (w : Wk) (h : i < l.length) : nestRun (l.drop i) w i =
    if insCheck (l.getD i zIns) ≠ 0 then insCheck (l.getD i zIns) else if (w.next (l.getD i zIns).op i).2.2 ≠ 0 then (w.next (l.getD i zIns).op i).2.2 else nestRun (l.drop (i + 1)) (w.next (l.getD i zIns).op i).1 (i + 1 : Nat) := by
  rw [drop_cons l i h, nestRun]
  rfl

end Trp

namespace Go.Proofs.YteaphfmgcpanmaaDoor
set_option linter.unusedVariables false
set_option linter.unusedSimpArgs false
open Go.RowKit Go.Proofs.YteaphfmgcpanmaaDoorW.PrintWords

/-- a walker lies at block g: its two rows lie from base on, none of them is g -/
def WkAt (w : World) (base g : Nat) (wk : Trp.Wk) : Prop :=
  ∃ vo vl, w.heap[g]? = some (.cells #[vo, vl, .bool wk.over] 68 (0, 0)) ∧ base ≤ g ∧
    (Kd.int .i64).R 3 w base (fun k => k ≠ g) vo wk.opens ∧ (Kd.int .u8).R 5 w base (fun k => k ≠ g) vl wk.last

theorem infoInt : (Tryd.prog.info? 3).map (fun i => (i.zero, i.size, i.bytes)) = some (some (.int .i64 0), 1, 8) := by kernel_rfl
theorem infoU8 : (Tryd.prog.info? 5).map (fun i => (i.zero, i.size, i.bytes)) = some (some (.int .u8 0), 1, 1) := by kernel_rfl

def BeginPost (w : World) (e : Ending) (w' : World) : Prop := ∃ g, e = .returned (.pointer (some ⟨g, 0, none⟩)) ∧ WkAt w' w.heap.size g Trp.Wk.begin ∧ Below w.heap.size w w'
theorem BeginPost.mk (w : World) : BeginPost w (.returned (.pointer (some ⟨w.heap.size + 1 + 1, 0, none⟩)))
    (((w.alloc (.cells #[.int .i64 (-1)] 3)).alloc (.cells #[.int .u8 2] 5)).alloc (.cells #[.slice (some ⟨w.heap.size, 0, none⟩) 1 1, .slice (some ⟨w.heap.size + 1, 0, none⟩) 1 1, .bool false] 68)) := by
  have h1 := rowLit1 (W := w) (base := w.heap.size) (e := 3) (k := .i64) (x := -1) rfl (Nat.le_refl _)
  have h1' := Kd.R_mono (ok' := fun k => k ≠ w.heap.size + 1 + 1) (Kd.R_bound h1) (fun k hk => by have := hk.2.2.1; simp at this; omega)
  have h2 := rowLit1 (W := w.alloc (.cells #[.int .i64 (-1)] 3)) (g := w.heap.size + 1) (base := w.heap.size) (e := 5) (k := .u8) (x := 2) (by simp) (by omega)
  have h2' := Kd.R_mono (ok' := fun k => k ≠ w.heap.size + 1 + 1) (Kd.R_bound h2) (fun k hk => by have := hk.2.2.1; simp at this; omega)
  refine ⟨_, rfl, ⟨_, _, ?_, by omega, Kd.R_alloc (Kd.R_alloc h1' _) _, Kd.R_alloc h2' _⟩, (((Below.refl _ _).alloc (Nat.le_refl _) _).alloc (by simp) _).alloc (by simp; omega) _⟩
  have := heap_alloc_new ((w.alloc (.cells #[.int .i64 (-1)] 3)).alloc (.cells #[.int .u8 2] 5)) (.cells #[.slice (some ⟨w.heap.size, 0, none⟩) 1 1, .slice (some ⟨w.heap.size + 1, 0, none⟩) 1 1, .bool false] 68)
  rw [show Trp.Wk.begin.over = false from rfl]
  simpa using this
theorem nest_begin (w : World) : Calls Tryd.prog 25 #[] w (BeginPost w) := by
  go_enter Tryd.func25, Tryd.ntmps25
  go_wp2
  go_ret
  exact BeginPost.mk w

/-! ### next -/
def NextPost (base g : Nat) (wk : Trp.Wk) (op pos : Int) (w : World) (e : Ending) (w' : World) : Prop :=
  e = .returned (.tuple #[.int .i64 (wk.next op pos).2.1, .int .i64 (wk.next op pos).2.2]) ∧ WkAt w' base g (wk.next op pos).1 ∧ Below base w w'

theorem WkAt.alloc {w : World} {base g : Nat} {wk : Trp.Wk} (h : WkAt w base g wk) (o : Obj) : WkAt (w.alloc o) base g wk := by
  obtain ⟨vo, vl, hg, hbg, hO, hL⟩ := h
  exact ⟨vo, vl, (heap_alloc_old w o (blk_lt hg)).trans hg, hbg, Kd.R_alloc hO o, Kd.R_alloc hL o⟩
/-- what a walker's cells hold, laid open -/
structure WkOpen (w : World) (base g : Nat) (wk : Trp.Wk) (n go co gl cl : Nat) : Prop where
  len : wk.opens.length = n
  hg : w.heap[g]? = some (.cells #[.slice (some ⟨go, 0, none⟩) n co, .slice (some ⟨gl, 0, none⟩) n cl, .bool wk.over] 68 (0, 0))
  bg : base ≤ g
  hO : (Kd.int .i64).R 3 w base (fun k => k ≠ g) (.slice (some ⟨go, 0, none⟩) n co) wk.opens
  hL : (Kd.int .u8).R 5 w base (fun k => k ≠ g) (.slice (some ⟨gl, 0, none⟩) n cl) wk.last
  co : n ≤ co
  cl : n ≤ cl
  ltg : g < w.heap.size
  lto : go < w.heap.size
  ltl : gl < w.heap.size
  bo : base ≤ go
  bl : base ≤ gl
  og : go ≠ g
  lg : gl ≠ g
  ol : go ≠ gl
  cO : w.cell? ⟨go, n - 1, none⟩ = some (.int .i64 (wk.opens.getD (n - 1) 0)) ∧ w.frozen? ⟨go, n - 1, none⟩ = false
  cL : w.cell? ⟨gl, n - 1, none⟩ = some (.int .u8 (wk.last.getD (n - 1) 0)) ∧ w.frozen? ⟨gl, n - 1, none⟩ = false
theorem WkAt.opened {w : World} {base g : Nat} {wk : Trp.Wk} (h : WkAt w base g wk) (hl : wk.last.length = wk.opens.length) (h0 : 0 < wk.opens.length) : ∃ n go co gl cl, WkOpen w base g wk n go co gl cl := by
  obtain ⟨vo, vl, hg, hbg, hO, hL⟩ := h
  obtain ⟨go, co, rfl, bo, lo, cells, hgo⟩ := Kd.R_form hO h0
  obtain ⟨gl, cl, rfl, bl, ll, cells', hgl⟩ := Kd.R_form hL (by omega)
  have hcO := Kd.R_cell (0 : Int) hO ((wk.opens.length - 1 : Nat) : Int) (by omega) (by omega)
  have hcL := Kd.R_cell (0 : Int) hL ((wk.opens.length - 1 : Nat) : Int) (by omega) (by omega)
  obtain ⟨_, hco, _⟩ := Kd.R_reads' hO
  obtain ⟨_, hcl, _⟩ := Kd.R_reads' hL
  rw [hl] at hg hL
  rw [Int.toNat_natCast] at hcO hcL
  exact ⟨_, go, co, gl, cl, rfl, hg, hbg, hO, hL, hco, by omega, blk_lt hg, lo, ll, bo, bl, hO.1 go (by simp [Value.ownBlock]), hL.1 gl (by simp [Value.ownBlock]), blk_ne hgo hgl (by decide), by simpa [rdOf] using hcO, by simpa [rdOf] using hcL⟩
theorem NextPost.same {base g : Nat} {wk : Trp.Wk} {op pos x y : Int} {w : World} {o : Obj} (h : WkAt w base g wk) (hb : base ≤ w.heap.size) (hn : wk.next op pos = (wk, x, y)) :
    NextPost base g wk op pos w (.returned (.tuple #[.int .i64 x, .int .i64 y])) (w.alloc o) := by
  refine ⟨by rw [hn], ?_, (Below.refl _ _).alloc hb _⟩
  rw [hn]
  exact WkAt.alloc h o

set_option maxHeartbeats 1000000 in
theorem next_over (op a b pos : Int) (l : List Int) (A : Option Addr) (c base g : Nat) (w : World) (wk : Trp.Wk) (h : WkAt w base g wk) (hb : base ≤ w.heap.size) (ho : wk.over = true) :
    Calls Tryd.prog 27 #[.pointer (some ⟨g, 0, none⟩), .agg #[.int .u8 op, .int .i64 a, .int .i64 b, .slice A l.length c], .int .i64 pos] w (NextPost base g wk op pos w) := by
  have H := Lib.hid h
  obtain ⟨vo, vl, hg, hbg, hO, hL⟩ := h
  obtain ⟨Ao, co, rfl, hlo, hCo⟩ := Kd.R_reads hO
  rw [ho] at hg
  have c0 := blk_cell hg 0
  have c2 := blk_cell hg 2
  have hlt := blk_lt hg
  simp at c0 c2
  clear hg hO hL hCo
  have HO := Lib.hid ho
  clear ho
  go_enter Tryd.func27, Tryd.ntmps27
  go_wp2
  go_ret2
  exact NextPost.same H.out hb (by unfold Trp.Wk.next; rw [if_pos HO.out])

set_option maxHeartbeats 1000000 in
theorem next_deep (op a b pos : Int) (l : List Int) (A : Option Addr) (c base g : Nat) (w : World) (wk : Trp.Wk) (h : WkAt w base g wk) (hb : base ≤ w.heap.size) (ho : wk.over = false) (hop : op = 2 ∨ op = 3 ∨ op = 4) (hd : 13 ≤ wk.opens.length) :
    Calls Tryd.prog 27 #[.pointer (some ⟨g, 0, none⟩), .agg #[.int .u8 op, .int .i64 a, .int .i64 b, .slice A l.length c], .int .i64 pos] w (NextPost base g wk op pos w) := by
  have H := Lib.hid h
  obtain ⟨vo, vl, hg, hbg, hO, hL⟩ := h
  obtain ⟨Ao, co, rfl, hlo, hCo⟩ := Kd.R_reads hO
  rw [ho] at hg
  have c0 := blk_cell hg 0
  have c2 := blk_cell hg 2
  have hlt := blk_lt hg
  have hm := Kd.C_max hCo
  simp at c0 c2
  clear hg hO hL hCo
  have HN := Lib.hid (show wk.next op pos = (wk, -2, 7) by unfold Trp.Wk.next; rw [if_neg (by simp [ho]), if_pos hop, if_pos hd])
  clear ho
  rcases hop with rfl | rfl | rfl
  all_goals
    go_enter Tryd.func27, Tryd.ntmps27
    go_wp2
    go_ret2
    exact NextPost.same H.out hb HN.out

set_option maxHeartbeats 1000000 in
theorem next_other (op a b pos : Int) (l : List Int) (A : Option Addr) (c base g : Nat) (w : World) (wk : Trp.Wk) (h : WkAt w base g wk) (hb : base ≤ w.heap.size) (ho : wk.over = false) (hop : op ≠ 2 ∧ op ≠ 3 ∧ op ≠ 4 ∧ op ≠ 5 ∧ op ≠ 11) :
    Calls Tryd.prog 27 #[.pointer (some ⟨g, 0, none⟩), .agg #[.int .u8 op, .int .i64 a, .int .i64 b, .slice A l.length c], .int .i64 pos] w (NextPost base g wk op pos w) := by
  have H := Lib.hid h
  obtain ⟨vo, vl, hg, hbg, hO, hL⟩ := h
  obtain ⟨Ao, co, rfl, hlo, hCo⟩ := Kd.R_reads hO
  rw [ho] at hg
  have c0 := blk_cell hg 0
  have c2 := blk_cell hg 2
  have hlt := blk_lt hg
  have hm := Kd.C_max hCo
  simp at c0 c2
  clear hg hO hL hCo
  have HN := Lib.hid (show wk.next op pos = (wk, -2, 0) by unfold Trp.Wk.next; rw [if_neg (by simp [ho]), if_neg (by omega), if_neg (by omega), if_neg (by omega)])
  have o2 : (op == 2) = false := by simpa using hop.1
  have o3 : (op == 3) = false := by simpa using hop.2.1
  have o4 : (op == 4) = false := by simpa using hop.2.2.1
  have o5 : (op == 5) = false := by simpa using hop.2.2.2.1
  have o11 : (op == 11) = false := by simpa using hop.2.2.2.2
  clear ho hop
  go_enter Tryd.func27, Tryd.ntmps27
  go_wp2
  go_ret2
  exact NextPost.same H.out hb HN.out

set_option maxHeartbeats 1000000 in
theorem next_elseBad (a b pos : Int) (l : List Int) (A : Option Addr) (c base g : Nat) (w : World) (wk : Trp.Wk) (h : WkAt w base g wk) (hb : base ≤ w.heap.size) (ho : wk.over = false) (hl : wk.last.length = wk.opens.length) (h0 : 0 < wk.opens.length) (hq : wk.last.getD (wk.opens.length - 1) 0 ≠ 4) :
    Calls Tryd.prog 27 #[.pointer (some ⟨g, 0, none⟩), .agg #[.int .u8 5, .int .i64 a, .int .i64 b, .slice A l.length c], .int .i64 pos] w (NextPost base g wk 5 pos w) := by
  have H := Lib.hid h
  obtain ⟨n, go, co, gl, cl, W⟩ := h.opened hl h0
  have HN := Lib.hid (show wk.next 5 pos = (wk, -2, 4) by unfold Trp.Wk.next; rw [if_neg (by simp [ho]), if_neg (by omega), if_pos rfl, if_pos hq])
  have hg := W.hg
  rw [ho] at hg
  have c0 := blk_cell hg 0
  have c1 := blk_cell hg 1
  have c2 := blk_cell hg 2
  have hlt := W.ltg
  have hltl := W.ltl
  have cL := W.cL.1
  rw [W.len] at hq h0
  obtain ⟨q, hq'⟩ : ∃ q, wk.last.getD (n - 1) 0 = q := ⟨_, rfl⟩
  rw [hq'] at hq cL
  have hq4 : (q != 4) = true := by rw [bne_iff_ne]; exact hq
  have hm : n ≤ 9223372036854775807 := by have := W.hO; have h2 := Kd.R_reads' this; have h3 := Kd.C_max h2.2.2; rw [W.len] at h3; exact h3
  simp at c0 c1 c2
  clear hg hq' hq ho hl h
  have HW := Lib.hid W
  clear W
  go_enter Tryd.func27, Tryd.ntmps27
  go_wp2
  go_ret2
  exact NextPost.same H.out hb HN.out
end Go.Proofs.YteaphfmgcpanmaaDoor

namespace Go.Proofs.YteaphfmgcpanmaaDoor
set_option linter.unusedVariables false
set_option linter.unusedSimpArgs false
open Go.RowKit Go.Proofs.YteaphfmgcpanmaaDoorW.PrintWords

theorem NextPost.mk {base g : Nat} {wk wk' : Trp.Wk} {op pos x y : Int} {w w' : World} (hn : wk.next op pos = (wk', x, y)) (h : WkAt w' base g wk' ∧ Below base w w') :
    NextPost base g wk op pos w (.returned (.tuple #[.int .i64 x, .int .i64 y])) w' := ⟨by rw [hn], by rw [hn]; exact h.1, h.2⟩
/-- 'last[top] = else' -/
theorem WkOpen.putLast {w : World} {base g n go co gl cl : Nat} {wk : Trp.Wk} (W : WkOpen w base g wk n go co gl cl) (o : Obj) (hb : base ≤ w.heap.size) (x : Int) :
    WkAt ((w.setCell ⟨gl, n - 1, none⟩ (.int .u8 x)).alloc o) base g ⟨wk.opens, wk.last.set (n - 1) x, wk.over⟩ ∧ Below base w ((w.setCell ⟨gl, n - 1, none⟩ (.int .u8 x)).alloc o) := by
  have hll : wk.last.length = n := (Kd.R_reads' W.hL).1.symm
  obtain ⟨hp, hgr⟩ := Kd.R_put (g := gl) (cap := cl) (by rw [hll]; exact W.hL) ((n - 1 : Nat) : Int) x
  rw [Int.toNat_natCast] at hp hgr
  rw [hll] at hp
  refine ⟨WkAt.alloc (wk := ⟨wk.opens, wk.last.set (n - 1) x, wk.over⟩) ⟨_, _, blk_far W.hg (p := ⟨gl, n - 1, none⟩) (fun e => W.lg e.symm) _, W.bg, Kd.R_over W.hO W.hL (by intro q hq; simp [Kd.int, Kd.scalar] at hq; omega) hgr, hp⟩ o, ((Below.refl _ _).setCell W.bl _).alloc (by simpa using hb) _⟩

set_option maxHeartbeats 1000000 in
theorem next_else (a b pos : Int) (l : List Int) (A : Option Addr) (c base g : Nat) (w : World) (wk : Trp.Wk) (h : WkAt w base g wk) (hb : base ≤ w.heap.size) (ho : wk.over = false) (hl : wk.last.length = wk.opens.length) (h0 : 0 < wk.opens.length) (hq : wk.last.getD (wk.opens.length - 1) 0 = 4) :
    Calls Tryd.prog 27 #[.pointer (some ⟨g, 0, none⟩), .agg #[.int .u8 5, .int .i64 a, .int .i64 b, .slice A l.length c], .int .i64 pos] w (NextPost base g wk 5 pos w) := by
  obtain ⟨n, go, co, gl, cl, W⟩ := h.opened hl h0
  rw [W.len] at hq h0
  obtain ⟨p, hp⟩ : ∃ p, wk.opens.getD (n - 1) 0 = p := ⟨_, rfl⟩
  have HN := Lib.hid (show wk.next 5 pos = (⟨wk.opens, wk.last.set (n - 1) 5, wk.over⟩, p, 0) by
    rw [← hp]
    unfold Trp.Wk.next; rw [W.len, if_neg (by simp [ho]), if_neg (by omega), if_pos rfl, if_neg (by rw [hq]; simp)])
  have hg := W.hg
  rw [ho] at hg
  have c0 := blk_cell hg 0
  have c1 := blk_cell hg 1
  have c2 := blk_cell hg 2
  have hlt := W.ltg
  have hltl := W.ltl
  have hlto := W.lto
  have cL := W.cL.1
  have fL := W.cL.2
  have cO := W.cO.1
  rw [hq] at cL
  rw [hp] at cO
  have e1 : ¬ g = gl := fun e => W.lg e.symm
  have e2 : ¬ go = gl := W.ol
  have hm : n ≤ 9223372036854775807 := by have := W.hO; have h2 := Kd.R_reads' this; have h3 := Kd.C_max h2.2.2; rw [W.len] at h3; exact h3
  have HP := fun o => W.putLast o hb 5
  have HP' := Lib.hid HP
  simp at c0 c1 c2
  clear hg hq ho hl h HP hp
  have HW := Lib.hid W
  clear W
  go_enter Tryd.func27, Tryd.ntmps27
  go_wp2
  go_ret2
  exact NextPost.mk HN.out (HP'.out _)

/-- 'open, last = open[:top], last[:top]', 'over = top == 0' -/
theorem WkOpen.shut {w : World} {base g n go co gl cl m : Nat} {wk : Trp.Wk} (W : WkOpen w base g wk n go co gl cl) (o : Obj) (hb : base ≤ w.heap.size) (hm : m ≤ n) {y z : Bool} (hy : y = z) :
    WkAt ((((w.setCell ⟨g, 0, none⟩ (.slice (some ⟨go, 0, none⟩) m co)).setCell ⟨g, 1, none⟩ (.slice (some ⟨gl, 0, none⟩) m cl)).setCell ⟨g, 2, none⟩ (.bool y)).alloc o).drew base g ⟨wk.opens.take m, wk.last.take m, z⟩ ∧
    Below base w ((((w.setCell ⟨g, 0, none⟩ (.slice (some ⟨go, 0, none⟩) m co)).setCell ⟨g, 1, none⟩ (.slice (some ⟨gl, 0, none⟩) m cl)).setCell ⟨g, 2, none⟩ (.bool y)).alloc o).drew := by
  subst hy
  have far : ∀ {α : Type} {d : Kd α} {e : Nat} {w : World} {v : Value} {xs : List α}, d.R e w base (fun k => k ≠ g) v xs → ∀ (i : Nat) (u : Value), d.R e (w.setCell ⟨g, i, none⟩ u) base (fun k => k ≠ g) v xs :=
    fun h i u => Kd.R_far (p := ⟨g, i, none⟩) h (fun _ hk => hk) u
  have hO := Kd.R_take W.hO (m := m) (by rw [W.len]; exact hm)
  have hL := Kd.R_take W.hL (m := m) (by have := (Kd.R_reads' W.hL).1; omega)
  have hg := blk_set (blk_set (blk_set W.hg 0 (.slice (some ⟨go, 0, none⟩) m co)) 1 (.slice (some ⟨gl, 0, none⟩) m cl)) 2 (.bool y)
  have hlt := blk_lt hg
  refine ⟨?_, ?_⟩
  · have h1 : WkAt (((w.setCell ⟨g, 0, none⟩ (.slice (some ⟨go, 0, none⟩) m co)).setCell ⟨g, 1, none⟩ (.slice (some ⟨gl, 0, none⟩) m cl)).setCell ⟨g, 2, none⟩ (.bool y)) base g ⟨wk.opens.take m, wk.last.take m, y⟩ :=
      ⟨_, _, by simpa using hg, W.bg, far (far (far hO 0 _) 1 _) 2 _, far (far (far hL 0 _) 1 _) 2 _⟩
    obtain ⟨vo, vl, a, b, c, d⟩ := h1.alloc o
    exact ⟨vo, vl, a, b, Kd.R_drew c, Kd.R_drew d⟩
  · exact (((((Below.refl _ _).setCell W.bg _).setCell W.bg _).setCell W.bg _).alloc (by simpa using hb) _).drew

set_option maxHeartbeats 4000000 in
theorem next_end (a b pos : Int) (l : List Int) (A : Option Addr) (c base g : Nat) (w : World) (wk : Trp.Wk) (h : WkAt w base g wk) (hb : base ≤ w.heap.size) (ho : wk.over = false) (hl : wk.last.length = wk.opens.length) (h0 : 0 < wk.opens.length) :
    Calls Tryd.prog 27 #[.pointer (some ⟨g, 0, none⟩), .agg #[.int .u8 11, .int .i64 a, .int .i64 b, .slice A l.length c], .int .i64 pos] w (NextPost base g wk 11 pos w) := by
  obtain ⟨n, go, co, gl, cl, W⟩ := h.opened hl h0
  rw [W.len] at h0
  obtain ⟨p, hp⟩ : ∃ p, wk.opens.getD (n - 1) 0 = p := ⟨_, rfl⟩
  have HN := Lib.hid (show wk.next 11 pos = (⟨wk.opens.take (n - 1), wk.last.take (n - 1), decide (n = 1)⟩, p, 0) by
    rw [← hp]
    unfold Trp.Wk.next; rw [W.len, if_neg (by simp [ho]), if_neg (by omega), if_neg (by omega), if_pos rfl])
  have hg := W.hg
  rw [ho] at hg
  have c0 := blk_cell hg 0
  have c1 := blk_cell hg 1
  have c2 := blk_cell hg 2
  have f0 := blk_frozen hg 0
  have f1 := blk_frozen hg 1
  have f2 := blk_frozen hg 2
  have hlt := W.ltg
  have hltl := W.ltl
  have hlto := W.lto
  have cO := W.cO.1
  rw [hp] at cO
  have hco := W.co
  have hcl := W.cl
  have e1 : ¬ g = gl := fun e => W.lg e.symm
  have e2 : ¬ go = gl := W.ol
  have hm : n ≤ 9223372036854775807 := by have := W.hO; have h2 := Kd.R_reads' this; have h3 := Kd.C_max h2.2.2; rw [W.len] at h3; exact h3
  simp at c0 c1 c2
  clear hg ho hl h hp
  have HW := Lib.hid W
  clear W
  go_enter Tryd.func27, Tryd.ntmps27
  go_wp2
  go_region
  all_goals
    go_wp2
    go_ret2
    exact NextPost.mk HN.out (HW.out.shut _ hb (by omega) (by rw [Bool.eq_iff_iff]; simp; omega))

/-- behind the first append -/
theorem WkOpen.first {w w1 : World} {base g n go co gl cl : Nat} {wk : Trp.Wk} (W : WkOpen w base g wk n go co gl cl) (ho : wk.over = false) {op : Int} {b c d : Value}
    (hgr : (w.alloc (.cells #[.int .u8 op, b, c, d] 45)).grownBy w1 (Value.slice (some ⟨go, 0, none⟩) n co).ownBlock) :
    w1.heap[g]? = some (.cells #[.slice (some ⟨go, 0, none⟩) n co, .slice (some ⟨gl, 0, none⟩) n cl, .bool false] 68 (0, 0)) ∧ w1.cell? ⟨w.heap.size, 0, none⟩ = some (.int .u8 op) ∧ w.heap.size < w1.heap.size ∧ (Kd.int .u8).R 5 w1 base (fun k => k ≠ g) (.slice (some ⟨gl, 0, none⟩) n cl) wk.last := by
  have hg := W.hg
  rw [ho] at hg
  have hg0 : (w.alloc (.cells #[.int .u8 op, b, c, d] 45)).heap[g]? = some _ := (heap_alloc_old w _ W.ltg).trans hg
  have hx : (w.alloc (.cells #[.int .u8 op, b, c, d] 45)).heap[w.heap.size]? = some (.cells #[.int .u8 op, b, c, d] 45 (0, 0)) := heap_alloc_new w _
  have e1 : some g ≠ (Value.slice (some ⟨go, 0, none⟩) n co).ownBlock := by simp [Value.ownBlock]; exact fun e => W.og e.symm
  have e2 : some w.heap.size ≠ (Value.slice (some ⟨go, 0, none⟩) n co).ownBlock := by simp [Value.ownBlock]; have := W.lto; omega
  have hx1 := blk_grown hx hgr e2
  refine ⟨blk_grown hg0 hgr e1, ?_, blk_lt hx1, ?_⟩
  · rw [blk_cell hx1 0]; rfl
  · exact Kd.R_over (Kd.R_alloc W.hL _) (Kd.R_alloc W.hO _) (by intro q hq; simp [Kd.int, Kd.scalar] at hq; omega) hgr

/-- behind both appends -/
theorem WkOpen.pushed {w w1 W2 w2 : World} {base g n go co gl cl k1 k2 : Nat} {A1 A2 : Option Addr} {wk : Trp.Wk} (W : WkOpen w base g wk n go co gl cl) (ho : wk.over = false) {op pos : Int}
    (hO1 : (Kd.int .i64).R 3 w1 base (fun k => k ≠ g) (.slice A1 (wk.opens ++ [pos]).length k1) (wk.opens ++ [pos])) (hW2 : W2 = w1.setCell ⟨g, 0, none⟩ (.slice A1 (wk.opens.length + 1) k1))
    (hL2 : (Kd.int .u8).R 5 W2 base (fun k => k ≠ g) (.slice (some ⟨gl, 0, none⟩) n cl) wk.last)
    (hgr3 : W2.drew.grownBy w2 (Value.slice (some ⟨gl, 0, none⟩) n cl).ownBlock) (hL3 : (Kd.int .u8).R 5 w2 base (fun k => k ≠ g) (.slice A2 (wk.last ++ [op]).length k2) (wk.last ++ [op]))
    (hg3 : w2.heap[g]? = some (.cells #[.slice A1 (wk.opens.length + 1) k1, .slice (some ⟨gl, 0, none⟩) n cl, .bool false] 68 (0, 0))) (hB3 : Below base w w2) :
    WkAt (w2.setCell ⟨g, 1, none⟩ (.slice A2 (wk.last.length + 1) k2)) base g ⟨wk.opens ++ [pos], wk.last ++ [op], wk.over⟩ ∧ Below base w (w2.setCell ⟨g, 1, none⟩ (.slice A2 (wk.last.length + 1) k2)) := by
  have e1 : (wk.opens ++ [pos]).length = wk.opens.length + 1 := by simp
  have e2 : (wk.last ++ [op]).length = wk.last.length + 1 := by simp
  rw [e1] at hO1
  rw [e2] at hL3
  have hO2 : (Kd.int .i64).R 3 W2 base (fun k => k ≠ g) (.slice A1 (wk.opens.length + 1) k1) (wk.opens ++ [pos]) := by rw [hW2]; exact Kd.R_far (p := ⟨g, 0, none⟩) hO1 (fun _ hk => hk) _
  have hO3 := Kd.R_over (Kd.R_drew hO2) (Kd.R_drew hL2) (by intro q hq; simp [Kd.int, Kd.scalar] at hq; omega) hgr3
  have hg4 := blk_set hg3 1 (.slice A2 (wk.last.length + 1) k2)
  exact ⟨⟨_, _, by rw [ho]; simpa using hg4, W.bg, Kd.R_far (p := ⟨g, 1, none⟩) hO3 (fun _ hk => hk) _, Kd.R_far (p := ⟨g, 1, none⟩) hL3 (fun _ hk => hk) _⟩, hB3.setCell W.bg _⟩

set_option maxHeartbeats 4000000 in
theorem next_block (op a b pos : Int) (l : List Int) (A : Option Addr) (c base g : Nat) (w : World) (wk : Trp.Wk) (h : WkAt w base g wk) (hb : base ≤ w.heap.size) (ho : wk.over = false) (hl : wk.last.length = wk.opens.length) (h0 : 0 < wk.opens.length) (hd : wk.opens.length < 13) (hop : op = 2 ∨ op = 3 ∨ op = 4) :
    Calls Tryd.prog 27 #[.pointer (some ⟨g, 0, none⟩), .agg #[.int .u8 op, .int .i64 a, .int .i64 b, .slice A l.length c], .int .i64 pos] w (NextPost base g wk op pos w) := by
  obtain ⟨n, go, co, gl, cl, W⟩ := h.opened hl h0
  rw [W.len] at h0 hd
  have HN := Lib.hid (show wk.next op pos = (⟨wk.opens ++ [pos], wk.last ++ [op], wk.over⟩, -2, 0) by
    unfold Trp.Wk.next; rw [W.len, if_neg (by simp [ho]), if_pos hop, if_neg (by omega)])
  have hg := W.hg
  rw [ho] at hg
  have c0 := blk_cell hg 0
  have c1 := blk_cell hg 1
  have c2 := blk_cell hg 2
  have hlt := W.ltg
  have hltl := W.ltl
  have hlto := W.lto
  simp at c0 c1 c2
  have HW := Lib.hid W
  have HG := Lib.hid hg
  have HL := Lib.hid hl
  have HO := Lib.hid ho
  clear hg ho hl h W
  have hop' : (op == 2) = true ∨ ((op == 2) = false ∧ (op == 3) = true) ∨ ((op == 2) = false ∧ (op == 3) = false ∧ (op == 4) = true) := by
    simp only [beq_iff_eq, beq_eq_false_iff_ne]; omega
  clear hop
  rcases hop' with o2 | ⟨o2, o3⟩ | ⟨o2, o3, o4⟩
  all_goals
    go_enter Tryd.func27, Tryd.ntmps27
    go_upto_region 10 with (at_builtin; refine appendR (Kd.int .i64) (w0 := w) (base := base) rfl (.tmp 37) (.tmp 39) 66 3 (.int .i64 0) 8 rfl Tryd.underlying66 infoInt rfl (by decide) (by decide) (okp := fun _ => False) (Kd.R_alloc HW.out.hO _) pos [.int .i64 pos] rfl rfl (by simp) rfl (fun _ hk => hk.elim) (fun k hk => by simp at hk; omega) ((Below.refl _ _).alloc hb _) (by simp; omega) (by rw [HW.out.len]; omega) ?_; intro v1 w1 hO1 hB1 hgr1 hat1; obtain ⟨A1, k1, rfl⟩ := Kd.R_slice hO1; obtain ⟨hg1, cx1, lx1, hL1⟩ := HW.out.first HO.out hgr1; have d0 := blk_cell hg1 0; have d1 := blk_cell hg1 1; have q0 := blk_frozen hg1 0; have q1 := blk_frozen hg1 1; have hlt1 := blk_lt hg1; have HG1 := Lib.hid hg1; have HL1 := Lib.hid hL1; have HO1 := Lib.hid hO1; have HB1 := Lib.hid hB1; have HR1 := Lib.hid hgr1; have HA1 := Lib.hid hat1; clear hg1 hL1 hO1 hB1 hgr1 hat1; simp at d0 d1)
    obtain ⟨W2, hW2⟩ : ∃ W2, W2 = w1.setCell ⟨g, 0, none⟩ (.slice A1 (wk.opens.length + 1) k1) := ⟨_, rfl⟩
    have hg2 := blk_set HG1.out 0 (.slice A1 (wk.opens.length + 1) k1)
    rw [← hW2] at hg2
    have cx2 : W2.cell? ⟨w.heap.size, 0, none⟩ = some (.int .u8 op) := by rw [hW2]; exact (World.cell?_setCell_other _ _ _ _ (by simp only [ne_eq, Addr.mk.injEq, not_and]; omega)).trans cx1
    have HL2 : (Kd.int .u8).R 5 W2 base (fun k => k ≠ g) (.slice (some ⟨gl, 0, none⟩) n cl) wk.last := by rw [hW2]; exact Kd.R_far (p := ⟨g, 0, none⟩) HL1.out (fun _ hk => hk) _
    rw [← hW2]
    have d1 := blk_cell hg2 1
    have q1 := blk_frozen hg2 1
    have hlt2 := blk_lt hg2
    have hB2 : Below base w W2 := by rw [hW2]; exact HB1.out.setCell HW.out.bg _
    have hbase2 : base ≤ W2.heap.size := by have := HW.out.bg; omega
    have HB2 := Lib.hid hB2
    have HW2 := Lib.hid hW2
    have HG2 := Lib.hid hg2
    simp at d1
    clear hB2 hg2 hW2 cx1 lx1 d0 q0 hlt1
    go_region_law (first | (refine appendR_step (Kd.int .u8) (w0 := w) (W := W2.drew) (base := base) rfl (.tmp 47) (.tmp 50) 40 5 (.int .u8 0) 1 rfl Tryd.underlying40 infoU8 rfl (by decide) (by decide) (okp := fun _ => False) (Kd.R_drew HL2) op [.int .u8 op] rfl rfl (by simp) rfl (fun _ hk => hk.elim) (fun k hk => by simp at hk; omega) HB2.out.drew (by simpa using hbase2) (by rw [HL.out, HW.out.len]; omega) ?_; intro v2 w2 hL3 hB3 hgr3 hat3; obtain ⟨A2, k2, rfl⟩ := Kd.R_slice hL3; have hg3 := blk_grown (w := W2.drew) HG2.out hgr3 (by simp [Value.ownBlock]; exact fun e => HW.out.lg e.symm); have d3 := blk_cell hg3 1; have q3 := blk_frozen hg3 1; have hlt3 := blk_lt hg3; have HG3 := Lib.hid hg3; have HL3 := Lib.hid hL3; have HB3 := Lib.hid hB3; have HR3 := Lib.hid hgr3; have HA3 := Lib.hid hat3; clear hg3 hL3 hB3 hgr3 hat3; simp at d3))
    all_goals
      go_wp2
      go_ret2
      exact NextPost.mk HN.out (HW.out.pushed HO.out HO1.out HW2.out HL2 HR3.out HL3.out HG3.out HB3.out)

/-- next, whatever the instruction -/
theorem nest_next (op a b pos : Int) (l : List Int) (A : Option Addr) (c base g : Nat) (w : World) (wk : Trp.Wk) (h : WkAt w base g wk) (hb : base ≤ w.heap.size) (hl : wk.last.length = wk.opens.length) (h0 : wk.over = false → 0 < wk.opens.length) :
    Calls Tryd.prog 27 #[.pointer (some ⟨g, 0, none⟩), .agg #[.int .u8 op, .int .i64 a, .int .i64 b, .slice A l.length c], .int .i64 pos] w (NextPost base g wk op pos w) := by
  cases ho : wk.over with
  | true => exact next_over op a b pos l A c base g w wk h hb ho
  | false =>
    have h0 := h0 ho
    by_cases h2 : op = 2 ∨ op = 3 ∨ op = 4
    · by_cases hd : 13 ≤ wk.opens.length
      · exact next_deep op a b pos l A c base g w wk h hb ho h2 hd
      · exact next_block op a b pos l A c base g w wk h hb ho hl h0 (by omega) h2
    · by_cases h5 : op = 5
      · subst h5
        by_cases hq : wk.last.getD (wk.opens.length - 1) 0 = 4
        · exact next_else a b pos l A c base g w wk h hb ho hl h0 hq
        · exact next_elseBad a b pos l A c base g w wk h hb ho hl h0 hq
      · by_cases h11 : op = 11
        · subst h11
          exact next_end a b pos l A c base g w wk h hb ho hl h0
        · exact next_other op a b pos l A c base g w wk h hb ho (by omega)
end Go.Proofs.YteaphfmgcpanmaaDoor

namespace Go.Proofs.YteaphfmgcpanmaaDoor
set_option linter.unusedVariables false
set_option linter.unusedSimpArgs false
open Go.RowKit Go.Proofs.YteaphfmgcpanmaaDoorW.PrintWords

theorem WkAt.below {w w1 : World} {base g : Nat} {wk : Trp.Wk} (h : WkAt w base g wk) (hb : Below w.heap.size w w1) : WkAt w1 base g wk := by
  obtain ⟨vo, vl, hg, hbg, hO, hL⟩ := h
  exact ⟨vo, vl, (hb.block g (blk_lt hg)).trans hg, hbg, Kd.R_below hO hb, Kd.R_below hL hb⟩
theorem WkAt.lt {w : World} {base g : Nat} {wk : Trp.Wk} (h : WkAt w base g wk) : g < w.heap.size := by
  obtain ⟨vo, vl, hg, _⟩ := h
  exact blk_lt hg
theorem WkAt.overCell {w : World} {base g : Nat} {wk : Trp.Wk} (h : WkAt w base g wk) : w.cell? ⟨g, 2, none⟩ = some (.bool wk.over) := by
  obtain ⟨vo, vl, hg, _⟩ := h
  rw [blk_cell hg 2]; rfl
/-- the cells of a block that was just laid, behind a call that only lays new ones -/
theorem below_new {w w1 : World} {cs : Array Value} {t : TypeId} (hb : Below (w.alloc (.cells cs t)).heap.size (w.alloc (.cells cs t)) w1) (i : Nat) : w1.cell? ⟨w.heap.size, i, none⟩ = cs[i]? := by
  have h := heap_alloc_new w (.cells cs t)
  exact blk_cell ((hb.block _ (by simp)).trans h) i

theorem rdIns_eq (l : List Trp.Ins) (j : Nat) : rd_TIns l (j : Int) = l.getD j Trp.zIns := by unfold rd_TIns; rw [Int.toNat_natCast]; rfl
section
variable {l : List Trp.Ins} {j : Nat} {wk : Trp.Wk} {R : Int} {x : Trp.Ins} (hrun : Trp.nestRun (l.drop j) wk j = R) (hlt : j < l.length) (hx : rd_TIns l (j : Int) = x)
include hrun hlt hx
theorem check_bad (h : (Trp.insCheck x != 0) = true) : Trp.insCheck x = R := by
  rw [rdIns_eq] at hx; rw [Trp.nestRun_cons l j wk hlt, hx, if_pos (by simpa using h)] at hrun; exact hrun
theorem check_err (h : (Trp.insCheck x != 0) = false) (h' : ((wk.next x.op j).2.2 != 0) = true) : (wk.next x.op j).2.2 = R := by
  rw [rdIns_eq] at hx; rw [Trp.nestRun_cons l j wk hlt, hx, if_neg (by simpa using h), if_pos (by simpa using h')] at hrun; exact hrun
theorem check_go (h : (Trp.insCheck x != 0) = false) (h' : ((wk.next x.op j).2.2 != 0) = false) : Trp.nestRun (l.drop (j + 1)) (wk.next x.op j).1 (j + 1 : Nat) = R := by
  rw [rdIns_eq] at hx; rw [Trp.nestRun_cons l j wk hlt, hx, if_neg (by simpa using h), if_neg (by simpa using h')] at hrun; exact hrun
end
def CheckRel (l : List Trp.Ins) (w : World) (g : Nat) (j : Nat) (wr : World) : Prop :=
  ∃ wk, WkAt wr w.heap.size g wk ∧ wk.Good ∧ Below w.heap.size w wr ∧ Trp.nestRun (l.drop j) wk j = Trp.nestCheck l

set_option maxHeartbeats 4000000 in
theorem nest_Check (l : List Trp.Ins) (A : Option Addr) (c : Nat) (w : World) (hl : l.length ≤ c) (hC : kIns.C w A l.length l) :
    Calls Tryd.prog 12 #[.slice A l.length c] w fun e w' => e = .returned (.int .i64 (Trp.nestCheck l)) ∧ Below w.heap.size w w' := by
  have hm := Kd.C_max hC
  by_cases h200 : 200 < l.length
  · have HN := Lib.hid (show Trp.nestCheck l = 2 by unfold Trp.nestCheck; rw [if_pos h200])
    go_enter Tryd.func12, Tryd.ntmps12
    go_wp2
    go_ret
    exact ⟨ret_int HN.out.symm, Below.refl _ _⟩
  · have HN := Lib.hid (show Trp.nestRun (l.drop 0) Trp.Wk.begin (0 : Nat) = Trp.nestCheck l by unfold Trp.nestCheck; rw [if_neg h200]; rfl)
    have HC := Lib.hid hC
    clear hC
    go_enter Tryd.func12, Tryd.ntmps12
    go_wp2_with (go_at_call 25; refine (nest_begin _).mono ?_; rintro e w1 ⟨g, rfl, hg, hb⟩; have HG := Lib.hid hg; have HB := Lib.hid hb; clear hg hb)
    go_loopw [15] (fun i wr => ∃ j : Nat, j ≤ l.length ∧ i = .int .i64 j ∧ CheckRel l w g j wr) (fun i _ => l.length - (intOf i).toNat)
    case atStart => exact ⟨0, Nat.zero_le _, rfl, _, HG.out, Trp.Wk.begin_good, HB.out, HN.out⟩
    case round =>
      obtain ⟨j, hj, rfl, wk, hk, hgood, hbel, hrun⟩ := hrel
      have HK := Lib.hid hk
      have HGo := Lib.hid hgood
      have HBe := Lib.hid hbel
      have HRun := Lib.hid hrun
      have hsz : w.heap.size ≤ wr.heap.size := hbel.size
      clear hk hgood hbel hrun
      by_cases hlt : j < l.length
      · obtain ⟨ad, A3, c3, hA, e0, e1, e2, e3, hl3, hC3⟩ := at_TIns (Kd.C_below HC.out HBe.out) (j : Int) (by omega) (by omega)
        obtain ⟨x, hx⟩ : ∃ x, rd_TIns l (j : Int) = x := ⟨_, rfl⟩
        simp only [hx, Int.toNat_natCast] at e0 e1 e2 e3 hl3 hC3
        have HX := Lib.hid hx
        have HC3 := Lib.hid hC3
        clear hx hC3
        subst hA
        have HS0 : Below w.heap.size w (wr.alloc (.cells #[.int .u8 x.op, .int .i64 x.a, .int .i64 x.b, .slice A3 x.tos.length c3] 45)) := HBe.out.alloc hsz _
        have HSS := Lib.hid HS0
        clear HS0
        cases hz : (Trp.insCheck x != 0) with
        | true =>
          go_wp2_with (first | (go_at_call 26; refine (ins_Check x A3 c3 _ hl3 (Kd.C_alloc HC3.out _)).mono ?_; rintro e w2 ⟨rfl, hb2⟩; have HB2 := Lib.hid hb2; clear hb2))
          go_ret
          exact ⟨ret_int (check_bad HRun.out hlt HX.out hz), below_then HSS.out (by simp; omega) HB2.out⟩
        | false =>
          cases hz' : ((wk.next x.op j).2.2 != 0) with
          | true =>
            go_wp2_with (first | (go_at_call 26; refine (ins_Check x A3 c3 _ hl3 (Kd.C_alloc HC3.out _)).mono ?_; rintro e w2 ⟨rfl, hb2⟩; have f0 := below_new hb2 0; have f1 := below_new hb2 1; have f2 := below_new hb2 2; have f3 := below_new hb2 3; have hz2 := hb2.size; have HB2 := Lib.hid hb2; clear hb2; simp at f0 f1 f2 f3 hz2) | (go_at_call 27; refine (nest_next x.op x.a x.b j x.tos A3 c3 w.heap.size g _ wk (((HK.out.alloc _)).below HB2.out) (by omega) HGo.out.1 HGo.out.2).mono ?_; rintro e w3 ⟨rfl, hk3, hb3⟩; have HK3 := Lib.hid hk3; have HB3 := Lib.hid hb3; clear hk3 hb3))
            go_ret
            exact ⟨ret_int (check_err HRun.out hlt HX.out hz hz'), (below_then HSS.out (by simp; omega) HB2.out).trans HB3.out⟩
          | false =>
            go_wp2_with (first | (go_at_call 26; refine (ins_Check x A3 c3 _ hl3 (Kd.C_alloc HC3.out _)).mono ?_; rintro e w2 ⟨rfl, hb2⟩; have f0 := below_new hb2 0; have f1 := below_new hb2 1; have f2 := below_new hb2 2; have f3 := below_new hb2 3; have hz2 := hb2.size; have HB2 := Lib.hid hb2; clear hb2; simp at f0 f1 f2 f3 hz2) | (go_at_call 27; refine (nest_next x.op x.a x.b j x.tos A3 c3 w.heap.size g _ wk (((HK.out.alloc _)).below HB2.out) (by omega) HGo.out.1 HGo.out.2).mono ?_; rintro e w3 ⟨rfl, hk3, hb3⟩; have HK3 := Lib.hid hk3; have HB3 := Lib.hid hb3; clear hk3 hb3))
            go_roundw
            case rel => exact ⟨j + 1, by omega, by go_num, _, HK3.out, Trp.Wk.next_good HGo.out _ _, (below_then HSS.out (by simp; omega) HB2.out).trans HB3.out, check_go HRun.out hlt HX.out hz hz'⟩
            case measure => simp [intOf]; omega
      · obtain rfl : j = l.length := by omega
        have hov := HK.out.overCell
        have hg := HK.out.lt
        have HE := Lib.hid (show (if wk.over = true then (0 : Int) else 3) = Trp.nestCheck l by rw [← HRun.out, List.drop_length]; rfl)
        clear hlt hj
        obtain ⟨ov, hov'⟩ : ∃ ov, wk.over = ov := ⟨_, rfl⟩
        rw [hov'] at hov HE
        clear hov'
        cases ov with
        | true =>
          go_wp2
          go_ret
          exact ⟨ret_int HE.out, HBe.out⟩
        | false =>
          go_wp2
          go_ret
          exact ⟨ret_int HE.out, HBe.out⟩
end Go.Proofs.YteaphfmgcpanmaaDoor

namespace Go.Proofs.YteaphfmgcpanmaaDoor
set_option linter.unusedVariables false
set_option linter.unusedSimpArgs false
open Go.RowKit Go.Proofs.YteaphfmgcpanmaaDoorW.PrintWords

/-- the six tests on the letters -/
structure LetterTests (s : ByteArray) (k : Int) : Prop where
  tq : (s.toList == [63]) = decide (k = 0)
  tk : (s.toList == [107]) = decide (k = 2)
  tc : (s.toList == [99]) = decide (k = 8)
  td : (s.toList == [100]) = decide (k = 9)
  tab : (s.toList == [97, 98]) = decide (k = 6)
  tt : (s.toList == [116]) = decide (k = 4)
  tany : Lib.containsAny s.data.toList [97, 116] = decide (3 ≤ k ∧ k ≤ 6)
  tlen : s.size < 4294967281
  tascii : ∀ (j : Nat) b, s.data.toList[j]? = some b → b.toNat < 128
theorem form_ascii (k : Int) : ∀ b ∈ (Trp.form k).data.toList, b.toNat < 128 := by
  unfold Trp.form
  repeat' split
  all_goals decide
theorem letterTests (k : Int) (h0 : 0 ≤ k) (h9 : k ≤ 9) : LetterTests (Trp.form k) k := by
  obtain rfl | rfl | rfl | rfl | rfl | rfl | rfl | rfl | rfl | rfl : k = 0 ∨ k = 1 ∨ k = 2 ∨ k = 3 ∨ k = 4 ∨ k = 5 ∨ k = 6 ∨ k = 7 ∨ k = 8 ∨ k = 9 := by omega
  all_goals
    refine ⟨by rw [ByteArray.toList_eq]; decide +kernel, by rw [ByteArray.toList_eq]; decide +kernel, by rw [ByteArray.toList_eq]; decide +kernel, by rw [ByteArray.toList_eq]; decide +kernel, by rw [ByteArray.toList_eq]; decide +kernel, by rw [ByteArray.toList_eq]; decide +kernel, by decide +kernel, by decide +kernel, ?_⟩
    intro j b hj
    exact form_ascii _ b (List.mem_of_getElem? hj)

theorem rbadA0 (a k : Int) (h : k = 1 ∨ k = 7) : (a != 0) = Trp.rBadA k a := by
  unfold Trp.rBadA
  rcases h with rfl | rfl <;> (rw [Bool.eq_iff_iff]; simp)
theorem any_take (l : List Int) (i : Nat) (h : i < l.length) : (l.take (i + 1)).any Trp.wide = ((l.take i).any Trp.wide || Trp.wide (rd l i)) := by
  rw [List.take_succ_eq_append_getElem h, List.any_append]
  simp [rd, List.getD_eq_getElem?_getD, h]
theorem rbadB (k b : Int) : Trp.rBadB k b = if k = 6 then Trp.wide b else b != 0 := by
  unfold Trp.rBadB
  by_cases h : k = 6
  · rw [if_pos h, if_pos h]
  · rw [if_neg h, if_neg h, Bool.eq_iff_iff]; simp
theorem rbadA2 (a : Int) : Trp.rBadA 2 a = (a != 64 && a != 126 && a != 127) := by
  unfold Trp.rBadA
  rw [if_pos rfl, Bool.eq_iff_iff]
  simp [and_assoc]

set_option maxHeartbeats 1000000 in
set_option maxRecDepth 100000 in
theorem ref_InsCheck (x : Trp.Ins) (h0 : 0 ≤ x.op) (h1 : x.op ≤ 255) (A : Option Addr) (c : Nat) (w : World) (hG : Gl w) (hl : x.tos.length ≤ c) (hC : (Kd.int .i64).C w A x.tos.length x.tos) :
    Calls Tryd.prog 62 #[.agg #[.int .u8 x.op, .int .i64 x.a, .int .i64 x.b, .slice A x.tos.length c]] w fun e w' => e = .returned (.int .i64 (Trp.insCheck x)) ∧ Below w.heap.size w w' := by
  rw [← Trp.rInsCheck_eq x h0 h1]
  obtain ⟨hf, hk0, hk9⟩ := Trp.form_of x.op h0 h1
  have hLT := letterTests _ hk0 hk9
  rw [← hf] at hLT
  have cB := ref_beside x.op h0 h1
  obtain ⟨s, hs⟩ : ∃ s, Trp.rBeside x.op = s := ⟨_, rfl⟩
  obtain ⟨k, hk⟩ : ∃ k, Trp.besides x.op = k := ⟨_, rfl⟩
  rw [hk] at hLT hk0 hk9 hf
  rw [hs] at hLT
  obtain ⟨tq, tk, tc, td, tab, tt, tany, tlen, tas⟩ := hLT
  obtain ⟨R, hR⟩ : ∃ R, Trp.rInsCheck x = R := ⟨_, rfl⟩
  rw [hR]
  unfold Trp.rInsCheck at hR
  rw [hk] at hR
  have HR := Aside0.mk hR
  clear hR
  have cA : ∀ W, Calls Tryd.prog 73 #[.string s, .string ⟨#[97, 116]⟩] W fun e w' => e = .returned (.bool (decide (3 ≤ k ∧ k ≤ 6))) ∧ Below W.heap.size W w' := fun W => by
    rw [← tany]
    exact Tryd.strings_ContainsAny s ⟨#[97, 116]⟩ W tlen (by decide) tas (fun j b hj => (by decide : ∀ b ∈ [(97 : UInt8), 116], b.toNat < 128) b (List.mem_of_getElem? hj))
  have HCA := Aside0.mk cA
  clear cA
  have HAny := Aside0.mk tany
  have HLen := Aside0.mk tlen
  have HAs := Aside0.mk tas
  have HK := Aside0.mk hk
  obtain ⟨op, a, b, l⟩ := x
  have HB := Aside0.mk (fun W hg => hs ▸ cB W hg)
  clear tany tlen tas hk cB hf hs
  simp only at *
  go_enter Tryd.func62, Tryd.ntmps62
  go_upto_region 2 with (go_at_call 20; refine (HB.out _ (hG.below ((Below.refl _ _).alloc (Nat.le_refl _) _))).mono ?_; rintro e w1 ⟨rfl, hb⟩; have f0 := below_new hb 0; have f1 := below_new hb 1; have f2 := below_new hb 2; have f3 := below_new hb 3; have HB1 := Aside0.mk hb; clear hb)
  by_cases c0 : k = 0
  · rw [decide_eq_true c0] at tq
    clear tk tc td tab tt
    have HC0 := Aside0.mk c0
    clear c0
    go_wp2
    go_ret
    exact ⟨ret_int (by rw [← HR.out, if_pos HC0.out]), below_then ((Below.refl _ _).alloc (Nat.le_refl _) _) (by simp) HB1.out⟩
  rw [decide_eq_false c0] at tq
  by_cases c1 : 16 < l.length
  · clear tk tc td tab tt
    have c1' : (16 : Int) < (l.length : Int) := by omega
    go_wp2
    go_ret
    exact ⟨ret_int (by rw [← HR.out, if_neg c0, if_pos c1]), below_then ((Below.refl _ _).alloc (Nat.le_refl _) _) (by simp) HB1.out⟩
  have c1' : ¬ (16 : Int) < (l.length : Int) := by omega
  go_upto_block 0 with (fail)
  go_cut [5] (fun v5 wc => v5 = .bool (Trp.rBadA k a) ∧ Aside0 (Below w1.heap.size w1 wc))
  case first =>
    clear tq tab tt
    have hcs : k = 2 ∨ k = 1 ∨ k = 3 ∨ k = 4 ∨ k = 5 ∨ k = 6 ∨ k = 7 ∨ k = 8 ∨ k = 9 := by omega
    clear hk0 hk9 HR HAny HK c0
    rcases hcs with rfl | hcs
    · have hA2 := Aside0.mk (rbadA2 a)
      simp only [Int.reduceEq, decide_false, decide_true] at tk tc td
      cases h64 : (a != 64) <;> cases h126 : (a != 126) <;> cases h127 : (a != 127)
      all_goals
        go_wp2
        go_meet
        case rel => exact ⟨by rw [hA2.out, h64, h126, h127]; rfl, ⟨Below.refl _ _⟩⟩
    · obtain rfl | rfl | rfl | rfl | rfl | rfl | rfl | rfl := hcs
      all_goals
        simp only [Int.reduceEq, decide_false, decide_true] at tk tc td
        go_wp2_with (first | (go_at_call 73; refine (HCA.out _).mono ?_; rintro e w2 ⟨rfl, hb2⟩; have g1 := (hb2.cell (p := ⟨w.heap.size, 1, none⟩) (World.block_lt_of_cell? w1 _ f1)).trans f1; have g2 := (hb2.cell (p := ⟨w.heap.size, 2, none⟩) (World.block_lt_of_cell? w1 _ f2)).trans f2; have g3 := (hb2.cell (p := ⟨w.heap.size, 3, none⟩) (World.block_lt_of_cell? w1 _ f3)).trans f3; have HB2 := Aside0.mk hb2; clear hb2) | (go_at_call 72; refine (ref_wide _ _).mono ?_; rintro e w' ⟨rfl, rfl⟩))
        all_goals
          go_meet
          case rel => exact ⟨by (first | (refine congrArg Value.bool ?_; unfold Trp.rBadA; simp [*]; done) | (refine congrArg Value.bool ?_; apply rbadA0; omega)), by first | exact HB2 | exact ⟨Below.refl _ _⟩⟩
  case rest =>
    clear tk tc td HCA
    obtain ⟨hA, HBc⟩ := hcut
    subst hA
    have hbc := HBc.out
    have g1 := (hbc.cell (p := ⟨w.heap.size, 1, none⟩) (World.block_lt_of_cell? w1 _ f1)).trans f1
    have g2 := (hbc.cell (p := ⟨w.heap.size, 2, none⟩) (World.block_lt_of_cell? w1 _ f2)).trans f2
    have g3 := (hbc.cell (p := ⟨w.heap.size, 3, none⟩) (World.block_lt_of_cell? w1 _ f3)).trans f3
    have hbw : Below w.heap.size w wc := (below_then ((Below.refl _ _).alloc (Nat.le_refl _) _) (by simp) HB1.out).trans (hbc.mono (by have := HB1.out.size; simp at this; omega))
    have hCc := Kd.C_below hC hbw
    have HBW := Aside0.mk hbw
    have HR' : Aside0 ((if (Trp.rBadA k a || Trp.rBadB k b || Trp.rBadTo k l) = true then (1 : Int) else 0) = R) := ⟨by rw [← HR.out, if_neg c0, if_neg c1]⟩
    obtain ⟨vA, hvA⟩ : ∃ vA, Trp.rBadA k a = vA := ⟨_, rfl⟩
    rw [hvA] at HR'
    simp only [hvA]
    clear hbc hbw f0 f1 f2 f3 HR HBc hC hvA HB1 HLen HAs HAny HB HK hk0 hk9 hG c1
    have htt : (!(s.toList == [116])) = decide (k ≠ 4) := by rw [tt]; simp
    obtain ⟨PT, hPT⟩ : ∃ PT, (decide (0 < l.length) && decide (k ≠ 4)) = PT := ⟨_, rfl⟩
    have hTo : Trp.rBadTo k l = (PT || l.any Trp.wide) := by rw [← hPT]; rfl
    obtain ⟨PB, hPB⟩ : ∃ PB, Trp.rBadB k b = PB := ⟨_, rfl⟩
    rw [hTo, hPB] at HR'
    have HPT := Aside0.mk hPT
    have HPB := Aside0.mk hPB
    have HPB' : Aside0 (PB = if decide (k = 6) = true then Trp.wide b else b != 0) := ⟨by rw [← hPB, rbadB]; simp⟩
    clear hPT hPB hTo
    have hlC := Kd.C_max hCc
    have key : ∀ v6 v7 : Bool, v6 = PB → v7 = PT → True := fun _ _ _ _ => trivial
    clear key
    cases h6 : decide (k = 6) <;> cases h4 : decide (k = 4) <;> by_cases hz : 0 < l.length
    all_goals
      rw [h6] at tab
      rw [h4] at tt
      rw [show decide (k ≠ 4) = !decide (k = 4) by simp, h4] at htt
      simp only [Bool.not_false, Bool.not_true] at htt
      have H6 := Aside0.mk h6
      have H4 := Aside0.mk h4
      have HZ := Aside0.mk hz
      have hz' : decide ((0 : Int) < (l.length : Int)) = decide (0 < l.length) := by simp
      simp only [hz, decide_true, decide_false] at hz'
      clear h6 h4
      go_wp2_with (go_at_call 72; refine (ref_wide _ _).mono ?_; rintro e w' ⟨rfl, rfl⟩)
      go_loop [7, 79] (fun v7 i => ∃ (j : Nat) (Y : Bool), j ≤ l.length ∧ v7 = .bool Y ∧ Aside0 (Y = (PT || (l.take j).any Trp.wide)) ∧ i = .int .i64 j) (fun _ i => l.length - (intOf i).toNat)
      case atStart => exact ⟨0, _, Nat.zero_le _, rfl, ⟨by rw [← HPT.out, show decide (k ≠ 4) = !decide (k = 4) by simp, H4.out]; simp [HZ.out]⟩, rfl⟩
      case round =>
        obtain ⟨j, Y, hj, rfl, HY, rfl⟩ := hrel
        by_cases hlt : j < l.length
        · obtain ⟨ad, rfl, hcell⟩ := Kd.at_int hCc (j : Int) (by omega) (by omega)
          rw [Int.toNat_natCast] at hcell
          have HT := Aside0.mk (any_take l j hlt)
          cases Y
          all_goals
            go_wp2_with (go_at_call 72; refine (ref_wide _ _).mono ?_; rintro e w' ⟨rfl, rfl⟩)
            go_round
            case rel => exact ⟨j + 1, _, by omega, rfl, ⟨by rw [HT.out, ← Bool.or_assoc, ← HY.out]; simp⟩, by go_num⟩
            case measure => simp [intOf]; omega
        · obtain rfl : j = l.length := by omega
          rw [List.take_length] at HY
          clear hlt hj
          cases vA <;> cases Y
          all_goals
            go_wp2
            all_goals
              go_ret
              exact ⟨ret_int (by rw [← HR'.out, ← HY.out, HPB'.out, H6.out]; simp [*]), HBW.out⟩
end Go.Proofs.YteaphfmgcpanmaaDoor

namespace Go.Proofs.YteaphfmgcpanmaaDoor
set_option linter.unusedVariables false
set_option linter.unusedSimpArgs false
open Go.RowKit Go.Proofs.YteaphfmgcpanmaaDoorW.PrintWords

/-- of w's blocks none has turned but those in S -/
structure Kp (S : Nat → Prop) (w w' : World) : Prop where
  os : w'.os = w.os
  tape : w'.tape = w.tape
  output : w'.output = w.output
  size : w.heap.size ≤ w'.heap.size
  block : ∀ k, k < w.heap.size → ¬ S k → w'.heap[k]? = w.heap[k]?
section
variable {S S' : Nat → Prop} {w w1 w2 : World}
theorem Kp.refl (S : Nat → Prop) (w : World) : Kp S w w := ⟨rfl, rfl, rfl, Nat.le_refl _, fun _ _ _ => rfl⟩
theorem Kp.trans (h : Kp S w w1) (k : Kp S w1 w2) : Kp S w w2 :=
  ⟨k.os.trans h.os, k.tape.trans h.tape, k.output.trans h.output, Nat.le_trans h.size k.size, fun i hi hs => (k.block i (Nat.lt_of_lt_of_le hi h.size) hs).trans (h.block i hi hs)⟩
theorem Kp.mono (h : Kp S w w1) (hs : ∀ k, S k → S' k) : Kp S' w w1 := ⟨h.os, h.tape, h.output, h.size, fun k hk hn => h.block k hk (fun q => hn (hs k q))⟩
/-- only blocks of w count -/
theorem Kp.mono_lt (h : Kp S w w1) (hs : ∀ k, k < w.heap.size → S k → S' k) : Kp S' w w1 := ⟨h.os, h.tape, h.output, h.size, fun k hk hn => h.block k hk (fun q => hn (hs k hk q))⟩
theorem Kp.of_below (h : Below w.heap.size w w1) : Kp S w w1 := ⟨h.os, h.tape, h.output, h.size, fun k hk _ => h.block k hk⟩
theorem Kp.below {B : Nat} (h : Kp S w w1) (hs : ∀ k, S k → B ≤ k) (hB : B ≤ w.heap.size) : Below B w w1 :=
  ⟨h.os, h.tape, h.output, h.size, fun k hk => h.block k (Nat.lt_of_lt_of_le hk hB) (fun q => by have := hs k q; omega)⟩
theorem Kp.alloc (h : Kp S w w1) (o : Obj) : Kp S w (w1.alloc o) := h.trans (.of_below ((Below.refl _ _).alloc (Nat.le_refl _) o))
theorem Kp.drew (h : Kp S w w1) : Kp S w w1.drew := ⟨h.os, h.tape, h.output, h.size, h.block⟩
theorem Kp.setCell (h : Kp S w w1) {p : Addr} (hp : S p.block ∨ w.heap.size ≤ p.block) (u : Value) : Kp S w (w1.setCell p u) :=
  ⟨h.os, h.tape, h.output, by have := h.size; simpa [World.setCell] using this, fun k hk hs => (Below.heap_setCell w1 p u k (by rintro rfl; rcases hp with hp | hp; exact hs hp; omega)).trans (h.block k hk hs)⟩
theorem Kp.step (h : Kp S w w1) (k : Below w1.heap.size w1 w2) : Kp S w w2 := h.trans (.of_below k)
theorem Kp.blk (h : Kp S w w1) {g : Nat} {o : Obj} (hg : w.heap[g]? = some o) (hs : ¬ S g) : w1.heap[g]? = some o := (h.block g (blk_lt hg) hs).trans hg
theorem Kp.cell (h : Kp S w w1) {p : Addr} (hp : p.block < w.heap.size) (hs : ¬ S p.block) : w1.cell? p = w.cell? p := World.cell?_of_block (w := w) (h.block p.block hp hs)
theorem Kp.frozen (h : Kp S w w1) {p : Addr} (hp : p.block < w.heap.size) (hs : ¬ S p.block) : w1.frozen? p = w.frozen? p := World.frozen?_of_block (w := w) (h.block p.block hp hs)
theorem Kp.R {α : Type} {d : Kd α} {e base : Nat} {ok : Nat → Prop} {v : Value} {xs : List α} (h : Kp S w w1) (hR : d.R e w base ok v xs) (hs : ∀ k, ok k → ¬ S k) : d.R e w1 base ok v xs :=
  Kd.R_step hR fun k ho hk => h.block k hk (hs k ho)
theorem Kp.grown (h : Kp S w w1) {row : Option Nat} (hg : w1.grownBy w2 row) (hr : ∀ k, row = some k → S k ∨ w.heap.size ≤ k) : Kp S w w2 :=
  ⟨hg.os.trans h.os, hg.tape.trans h.tape, hg.output.trans h.output, Nat.le_trans h.size hg.size, fun k hk hs => (hg.block k (Nat.lt_of_lt_of_le hk h.size) (fun e => by rcases hr k e.symm with q | q; exact hs q; omega)).trans (h.block k hk hs)⟩
end
/-- the cells of a block that was just laid, behind a call that keeps it -/
theorem Kp.new {S : Nat → Prop} {w w1 : World} {cs : Array Value} {t : TypeId} (h : Kp S (w.alloc (.cells cs t)) w1) (hs : ¬ S w.heap.size) (i : Nat) : w1.cell? ⟨w.heap.size, i, none⟩ = cs[i]? :=
  blk_cell (h.blk (heap_alloc_new w (.cells cs t)) hs) i
end Go.Proofs.YteaphfmgcpanmaaDoor
