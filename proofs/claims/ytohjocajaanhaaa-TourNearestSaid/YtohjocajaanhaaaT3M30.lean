import Derived.Test.YtohjocajaanhaaaT3M29
import Derived.Test.YtohjocajaanhaaaT3M21
import Derived.Test.YtohjocajaanhaaaT3M26
import Derived.Test.YtohjocajaanhaaaT3M28
import Derived.Test.YtohjocajaanhaaaT3M25
import Derived.Test.YtohjocajaanhaaaT3Px7
import Derived.Test.YtohjocajaanhaaaT3Px6
import Derived.Test.YtohjocajaanhaaaT3Px29
/- What the program's span comes to: a run that always adds the cheapest edge. Plain numbers and lists. -/

namespace Go.Proofs.Ytohjocajaanhaaa.B
open Go.RowKit Go.Proofs.Ytohjocajaanhaaa.P Go.Proofs.YtohjocajaanhaaaW.PrintWords Go.Proofs.YtohjocajaanhaaaW.PrintLast Go.Proofs.YtohjocajaanhaaaW.PrintMore Go.Proofs.Ytohjocajaanhaaa.Mst
set_option linter.unusedVariables false
set_option linter.unusedSimpArgs false

theorem rd_set (s : List Int) (x y v : Int) (h0 : 0 ≤ x) (h1 : x < (s.length : Int)) (hy : 0 ≤ y) : rd (s.set x.toNat v) y = if x = y then v else rd s y := by
  unfold rd
  rw [List.getD_eq_getElem?_getD, List.getD_eq_getElem?_getD, List.getElem?_set]
  by_cases h : x = y
  · subst h; rw [if_pos rfl, if_pos (by omega), if_pos rfl]; rfl
  · rw [if_neg (by omega), if_neg h]
/-- What is known of one number's cost: it is the least to the set S. -/
def Least (l : List S31) (w : List Int) (S : Nat → Prop) (x8 : List Int) (b : Nat) : Prop :=
  (∃ u, S u ∧ u < l.length ∧ rd x8 (b : Int) = cst l w u b) ∧ ∀ u, S u → u < l.length → rd x8 (b : Int) ≤ cst l w u b
/-- The state of the walk: sizes, marks, and where each number came from. -/
structure Marks (l : List S31) (ins : List Int) (x6 : List Int) (x7 : List Bool) (x8 x9 : List Int) : Prop where
  l6 : x6.length = l.length
  l7 : x7.length = l.length
  l8 : x8.length = l.length
  l9 : x9.length = l.length
  m7 : ∀ b : Nat, b < l.length → (rdOf false x7 (b : Int) = true ↔ (b : Int) ∈ ins)
  m9 : ∀ b : Nat, b < l.length → 0 ≤ rd x9 (b : Int) ∧ rd x9 (b : Int) < (l.length : Int)
def insS (ins : List Int) : Nat → Prop := fun x => (x : Int) ∈ ins

theorem span_l3 {l : List S31} {w : List Int} (hg : Good l w) (ins : List Int) (v : Nat) (hv : v < l.length) (acc : Int) (r : Nat) (hr : r < 200) (Post : Int × List Int → Prop)
    (hk : ∀ x6 x7 x8 x9, Marks l (ins ++ [(v : Int)]) x6 x7 x8 x9 → (∀ b, b < l.length → ¬ insS (ins ++ [(v : Int)]) b → Least l w (insS (ins ++ [(v : Int)])) x8 b) → EvP (fun k => tour_span.l1 k l w x6 x7 x8 x9 acc (wrap64 ((l.length : Int) - 1)) ((r + 1 : Nat) : Int)) Post) (d : Nat) :
    ∀ (j : Nat) (x6 : List Int) (x7 : List Bool) (x8 x9 : List Int), j + d = l.length → Marks l (ins ++ [(v : Int)]) x6 x7 x8 x9 →
      (∀ b, b < j → ¬ insS (ins ++ [(v : Int)]) b → Least l w (insS (ins ++ [(v : Int)])) x8 b) → (∀ b, j ≤ b → b < l.length → ¬ insS (ins ++ [(v : Int)]) b → Least l w (insS ins) x8 b) →
      EvP (fun k => tour_span.l3 k l w x6 x7 x8 x9 acc (v : Int) (wrap64 ((l.length : Int) - 1)) (r : Int) (l.length : Int) (j : Int)) Post := by
  have n1 := hg.n1
  have wl := hg.wl
  induction d with
  | zero =>
    intro j x6 x7 x8 x9 hj hm h1 h2
    have hw : wrap64 ((r : Int) + 1) = ((r + 1 : Nat) : Int) := by rw [wrap_mid _ (by omega) (by omega)]; omega
    refine EvP.step (fun k => ?_) (hk x6 x7 x8 x9 hm (fun b hb => h1 b (by omega)))
    simp only [tour_span.l3]
    rw [if_neg (by omega), hw]
  | succ d ih =>
    intro j x6 x7 x8 x9 hj hm h1 h2
    have hw : wrap64 ((j : Int) + 1) = ((j + 1 : Nat) : Int) := by rw [wrap_mid _ (by omega) (by omega)]; omega
    have kv := ok_at hg.v (v : Int) (by omega) (by omega)
    have kj := ok_at hg.v (j : Int) (by omega) (by omega)
    obtain ⟨l6, l7, l8, l9, m7, m9⟩ := hm
    have hin : ∀ b, insS (ins ++ [(v : Int)]) b ↔ (insS ins b ∨ b = v) := fun b => by
      unfold insS
      rw [List.mem_append, List.mem_singleton]
      exact ⟨fun h => h.imp_right (fun h => by omega), fun h => h.imp_right (fun h => by omega)⟩
    have pre : ∀ k, tour_span.l3 (k + 1) l w x6 x7 x8 x9 acc (v : Int) (wrap64 ((l.length : Int) - 1)) (r : Int) (l.length : Int) (j : Int) =
        if rdOf false x7 (j : Int) = true then tour_span.l3 k l w x6 x7 x8 x9 acc (v : Int) (wrap64 ((l.length : Int) - 1)) (r : Int) (l.length : Int) ((j + 1 : Nat) : Int)
        else (if cst l w v j < rd x8 (j : Int) then tour_span.l3 k l w x6 x7 (x8.set (j : Int).toNat (cst l w v j)) (x9.set (j : Int).toNat (v : Int)) acc (v : Int) (wrap64 ((l.length : Int) - 1)) (r : Int) (l.length : Int) ((j + 1 : Nat) : Int)
        else tour_span.l3 k l w x6 x7 x8 x9 acc (v : Int) (wrap64 ((l.length : Int) - 1)) (r : Int) (l.length : Int) ((j + 1 : Nat) : Int)) := by
      intro k
      simp only [tour_span.l3]
      rw [if_pos (by omega), if_pos (by omega), if_pos (by omega), if_pos (by omega), if_pos (by omega), dist_eq kv kj]
      simp only [Option.bind_some]
      rw [if_pos (by omega), if_pos (by omega), if_pos (by omega), if_pos (show (j : Int) < (x8.length : Int) by omega), if_pos (show (j : Int) < (x9.length : Int) by omega), hg.wrap hv (by omega), hw]
    by_cases hs : rdOf false x7 (j : Int) = true
    · refine EvP.step (fun k => by rw [pre k, if_pos hs]) (ih (j + 1) x6 x7 x8 x9 (by omega) ⟨l6, l7, l8, l9, m7, m9⟩ (fun b hb hn => ?_) (fun b hb => h2 b (by omega)))
      by_cases hbj : b = j
      · rw [hbj] at hn
        exact absurd ((m7 j (by omega)).1 hs) hn
      · exact h1 b (by omega) hn
    · have hjn : ¬ insS (ins ++ [(v : Int)]) j := fun h => hs ((m7 j (by omega)).2 h)
      obtain ⟨⟨u, hu, hul, hue⟩, hmin⟩ := h2 j (Nat.le_refl _) (by omega) hjn
      by_cases hlt : cst l w v j < rd x8 (j : Int)
      · refine EvP.step (fun k => by rw [pre k, if_neg hs, if_pos hlt]) (ih (j + 1) x6 x7 _ _ (by omega) ⟨l6, l7, by simp [l8], by simp [l9], m7, fun b hb => ?_⟩ (fun b hb hn => ?_) (fun b hb hbl hn => ?_))
        · rw [rd_set x9 (j : Int) (b : Int) _ (by omega) (by omega) (by omega)]
          split
          · omega
          · exact m9 b hb
        · by_cases hbj : b = j
          · rw [hbj]
            unfold Least
            rw [rd_set x8 (j : Int) (j : Int) _ (by omega) (by omega) (by omega), if_pos rfl]
            refine ⟨⟨v, (hin v).2 (.inr rfl), hv, rfl⟩, fun u' hu' hul' => ?_⟩
            rcases (hin u').1 hu' with h | rfl
            · have := hmin u' h hul'; omega
            · exact Int.le_refl _
          · have := h1 b (by omega) hn
            unfold Least at this ⊢
            rw [rd_set x8 (j : Int) (b : Int) _ (by omega) (by omega) (by omega), if_neg (by omega)]
            exact this
        · have := h2 b (by omega) hbl hn
          unfold Least at this ⊢
          rw [rd_set x8 (j : Int) (b : Int) _ (by omega) (by omega) (by omega), if_neg (by omega)]
          exact this
      · refine EvP.step (fun k => by rw [pre k, if_neg hs, if_neg hlt]) (ih (j + 1) x6 x7 x8 x9 (by omega) ⟨l6, l7, l8, l9, m7, m9⟩ (fun b hb hn => ?_) (fun b hb => h2 b (by omega)))
        by_cases hbj : b = j
        · rw [hbj]
          refine ⟨⟨u, (hin u).2 (.inl hu), hul, hue⟩, fun u' hu' hul' => ?_⟩
          rcases (hin u').1 hu' with h | rfl
          · exact hmin u' h hul'
          · omega
        · exact h1 b (by omega) hn
/-- What is known when the numbers below j have been looked at. -/
def Next (l : List S31) (ins : List Int) (x8 : List Int) (j : Nat) (v : Int) : Prop :=
  (v = -1 ∧ ∀ b, b < j → insS ins b) ∨ (∃ b : Nat, v = (b : Int) ∧ b < l.length ∧ ¬ insS ins b ∧ ∀ b', b' < j → ¬ insS ins b' → rd x8 (b : Int) ≤ rd x8 (b' : Int))
theorem span_l2 {l : List S31} {w : List Int} (hg : Good l w) (ins : List Int) (hil : ins.length < l.length) (acc : Int) (ha0 : -60000000 * 1000 ≤ acc) (ha1 : acc ≤ 60000000 * 1000) (r : Nat) (x6 : List Int) (x7 : List Bool) (x8 x9 : List Int) (hm : Marks l ins x6 x7 x8 x9) (hle : ∀ b, b < l.length → ¬ insS ins b → Least l w (insS ins) x8 b) (Post : Int × List Int → Prop)
    (hk : ∀ (v : Nat) (y6 : List Int) (y7 : List Bool), v < l.length → ¬ insS ins v → (∀ b', b' < l.length → ¬ insS ins b' → rd x8 (v : Int) ≤ rd x8 (b' : Int)) → Marks l (ins ++ [(v : Int)]) y6 y7 x8 x9 → EvP (fun k => tour_span.l3 k l w y6 y7 x8 x9 (acc + rd x8 (v : Int)) (v : Int) (wrap64 ((l.length : Int) - 1)) (r : Int) (l.length : Int) 0) Post) (d : Nat) :
    ∀ (j : Nat) (v : Int), j + d = l.length → Next l ins x8 j v → EvP (fun k => tour_span.l2 k l w x6 x7 x8 x9 acc v (wrap64 ((l.length : Int) - 1)) (r : Int) (l.length : Int) (j : Int)) Post := by
  have n1 := hg.n1
  obtain ⟨l6, l7, l8, l9, m7, m9⟩ := hm
  induction d with
  | zero =>
    intro j v hj hv
    rcases hv with ⟨h1, h2⟩ | ⟨b, h1, h2, h3, h4⟩
    · obtain ⟨x, hx, hxn⟩ := some_out hil
      exact absurd (h2 x (by omega)) hxn
    · obtain ⟨⟨u, hu, hul, hue⟩, _⟩ := hle b h2 h3
      have hc := hg.cst hul h2
      have h9 := m9 b h2
      refine EvP.step (f := fun k => tour_span.l3 k l w ((x6.set (b : Int).toNat (wrap64 (rd x6 (b : Int) + 1))).set (rd x9 (b : Int)).toNat (wrap64 (rd (x6.set (b : Int).toNat (wrap64 (rd x6 (b : Int) + 1))) (rd x9 (b : Int)) + 1))) (x7.set (b : Int).toNat true) x8 x9 (acc + rd x8 (b : Int)) (b : Int) (wrap64 ((l.length : Int) - 1)) (r : Int) (l.length : Int) 0) (fun k => ?_) ?_
      · simp only [tour_span.l2]
        rw [if_neg (by omega), h1, if_pos (by omega), if_pos (by omega), if_pos (by omega), if_pos (by omega)]
        simp only [Option.bind_some]
        rw [if_pos (by omega), if_pos (by omega), if_pos (by omega), wrap_mid (acc + rd x8 (b : Int)) (by omega) (by omega)]
      · refine hk b _ _ h2 h3 (fun b' hb' => h4 b' (by omega)) ⟨by simp [l6], by simp [l7], l8, l9, fun b' hb' => ?_, m9⟩
        rw [rdOf_set x7 (b : Int) (b' : Int) (by omega) (by omega) (by omega), List.mem_append, List.mem_singleton]
        by_cases he : (b : Int) = (b' : Int)
        · rw [if_pos he]; exact ⟨fun _ => .inr he.symm, fun _ => rfl⟩
        · rw [if_neg he, m7 b' hb']
          exact ⟨fun h => .inl h, fun h => h.resolve_right (fun h => he h.symm)⟩
  | succ d ih =>
    intro j v hj hv
    have hw : wrap64 ((j : Int) + 1) = ((j + 1 : Nat) : Int) := by rw [wrap_mid _ (by omega) (by omega)]; omega
    by_cases hs : rdOf false x7 (j : Int) = true
    · have hjin := (m7 j (by omega)).1 hs
      refine EvP.step (fun k => ?_) (ih (j + 1) v (by omega) ?_)
      · simp only [tour_span.l2]
        rw [if_pos (by omega), if_pos (by omega), if_pos (by omega), if_pos hs, hw]
      · rcases hv with ⟨h1, h2⟩ | ⟨b, h1, h2, h3, h4⟩
        · refine .inl ⟨h1, fun b hb => ?_⟩
          by_cases hbj : b = j
          · rw [hbj]; exact hjin
          · exact h2 b (by omega)
        · refine .inr ⟨b, h1, h2, h3, fun b' hb' hn => ?_⟩
          by_cases hbj : b' = j
          · exact absurd (hbj ▸ hjin) hn
          · exact h4 b' (by omega) hn
    · have hjn : ¬ insS ins j := fun h => hs ((m7 j (by omega)).2 h)
      by_cases hneg : v < 0
      · refine EvP.step (fun k => ?_) (ih (j + 1) (j : Int) (by omega) (.inr ⟨j, rfl, by omega, hjn, fun b' hb' hn => ?_⟩))
        · simp only [tour_span.l2]
          rw [if_pos (by omega), if_pos (by omega), if_pos (by omega), if_neg hs, if_pos hneg, hw]
        · rcases hv with ⟨h1, h2⟩ | ⟨b, h1, _⟩
          · by_cases hbj : b' = j
            · rw [hbj]; exact Int.le_refl _
            · exact absurd (h2 b' (by omega)) hn
          · omega
      · rcases hv with ⟨h1, h2⟩ | ⟨b, h1, h2, h3, h4⟩
        · omega
        · by_cases hlt : rd x8 (j : Int) < rd x8 v
          · refine EvP.step (fun k => ?_) (ih (j + 1) (j : Int) (by omega) (.inr ⟨j, rfl, by omega, hjn, fun b' hb' hn => ?_⟩))
            · simp only [tour_span.l2]
              rw [if_pos (by omega), if_pos (by omega), if_pos (by omega), if_neg hs, if_neg hneg, if_pos (by omega), if_pos (by omega), if_pos (by omega), if_pos hlt, hw]
            · by_cases hbj : b' = j
              · rw [hbj]; exact Int.le_refl _
              · have := h4 b' (by omega) hn
                rw [h1] at hlt
                omega
          · refine EvP.step (fun k => ?_) (ih (j + 1) v (by omega) (.inr ⟨b, h1, h2, h3, fun b' hb' hn => ?_⟩))
            · simp only [tour_span.l2]
              rw [if_pos (by omega), if_pos (by omega), if_pos (by omega), if_neg hs, if_neg hneg, if_pos (by omega), if_pos (by omega), if_pos (by omega), if_neg hlt, hw]
            · by_cases hbj : b' = j
              · rw [hbj, ← h1]; omega
              · exact h4 b' (by omega) hn
theorem span_l1 {l : List S31} {w : List Int} (hg : Good l w) (d : Nat) : ∀ (r : Nat) (acc : Int) (ins : List Int) (x6 : List Int) (x7 : List Bool) (x8 x9 : List Int), ins.length = r + 1 → r + 1 + d = l.length → ins.Nodup → (∀ x ∈ ins, 0 ≤ x ∧ x < (l.length : Int)) → Marks l ins x6 x7 x8 x9 → (∀ b, b < l.length → ¬ insS ins b → Least l w (insS ins) x8 b) →
    -60000000 * (r : Int) ≤ acc → acc ≤ 60000000 * (r : Int) → EvP (fun k => tour_span.l1 k l w x6 x7 x8 x9 acc (wrap64 ((l.length : Int) - 1)) (r : Int)) (fun q => ∃ t, Run (cst l w) l.length (insS ins) d t ∧ q.1 = acc + t) := by
  have n1 := hg.n1
  have hwn : wrap64 ((l.length : Int) - 1) = (l.length : Int) - 1 := wrap_mid _ (by omega) (by omega)
  induction d with
  | zero =>
    intro r acc ins x6 x7 x8 x9 hl hrd hd hin hm hle ha0 ha1
    refine EvP.stop (acc, x6) (fun k => ?_) ⟨0, Run.nil (fun x hx => full_in hd hin (by omega) x hx), by show acc = acc + 0; omega⟩
    simp only [tour_span.l1]
    rw [if_neg (by omega)]
  | succ d ih =>
    intro r acc ins x6 x7 x8 x9 hl hrd hd hin hm hle ha0 ha1
    refine EvP.step (f := fun k => tour_span.l2 k l w x6 x7 x8 x9 acc (-1) (wrap64 ((l.length : Int) - 1)) (r : Int) (l.length : Int) ((0 : Nat) : Int)) (fun k => ?_) ?_
    · simp only [tour_span.l1]
      rw [if_pos (by omega)]
      rfl
    · refine span_l2 hg ins (by omega) acc (by omega) (by omega) r x6 x7 x8 x9 hm hle _ (fun v y6 y7 hv hvn hmin hm' => ?_) l.length 0 (-1) (by omega) (.inl ⟨rfl, fun b hb => by omega⟩)
      obtain ⟨⟨u, hu, hul, hue⟩, hmu⟩ := hle v hv hvn
      have hc := hg.cst hul hv
      have hset : insS (ins ++ [(v : Int)]) = (fun x : Nat => insS ins x ∨ x = v) := by
        funext x
        unfold insS
        rw [List.mem_append, List.mem_singleton]
        exact propext ⟨fun h => h.imp_right (fun h => by omega), fun h => h.imp_right (fun h => by omega)⟩
      refine span_l3 hg ins v hv (acc + rd x8 (v : Int)) r (by omega) _ (fun z6 z7 z8 z9 hz hzl => ?_) l.length 0 y6 y7 x8 x9 (by omega) hm' (fun b hb => by omega) (fun b _ hbl hn => hle b hbl (fun h => hn (by rw [hset]; exact .inl h)))
      obtain ⟨q, hq, t, ht, he⟩ := ih (r + 1) (acc + rd x8 (v : Int)) (ins ++ [(v : Int)]) z6 z7 z8 z9 (by simp; omega) (by omega) (by
          rw [List.nodup_append]
          refine ⟨hd, by simp, fun x hx y hy => ?_⟩
          rw [List.mem_singleton] at hy
          rintro rfl
          exact hvn (show insS ins v by unfold insS; rw [← hy]; exact hx)) (fun x hx => by
          rcases List.mem_append.1 hx with hx | hx
          · exact hin x hx
          · rw [List.mem_singleton] at hx; omega) hz hzl (by omega) (by omega)
      rw [hset] at ht
      refine ⟨q, hq, cst l w u v + t, ?_, by omega⟩
      refine Run.cons hu hul hvn hv (fun a b' ha hal hb' hbl' => ?_) ht
      obtain ⟨_, hmb⟩ := hle b' hbl' hb'
      have h1 := hmb a ha hal
      have h2 := hmin b' hbl' hb'
      omega
theorem span_l0 {l : List S31} {w : List Int} (hg : Good l w) (x6 : List Int) (x7 : List Bool) (x9 : List Int) (Post : Int × List Int → Prop)
    (hk : ∀ x8 : List Int, x8.length = l.length → (∀ b : Nat, b < l.length → rd x8 (b : Int) = cst l w 0 b) → EvP (fun k => tour_span.l1 k l w x6 x7 x8 x9 0 (wrap64 ((l.length : Int) - 1)) 0) Post) (d : Nat) :
    ∀ (j : Nat) (x8 : List Int), j + d = l.length → x8.length = l.length → (∀ b : Nat, b < j → rd x8 (b : Int) = cst l w 0 b) → EvP (fun k => tour_span.l0 k l w x6 x7 x8 x9 (l.length : Int) (j : Int)) Post := by
  have n0 := hg.n0
  have n1 := hg.n1
  have wl := hg.wl
  induction d with
  | zero =>
    intro j x8 hj h8 hb
    refine EvP.step (fun k => ?_) (hk x8 h8 (fun b hbl => hb b (by omega)))
    simp only [tour_span.l0]
    rw [if_neg (by omega)]
  | succ d ih =>
    intro j x8 hj h8 hb
    have hw : wrap64 ((j : Int) + 1) = ((j + 1 : Nat) : Int) := by rw [wrap_mid _ (by omega) (by omega)]; omega
    have k0 := ok_at hg.v 0 (by omega) (by omega)
    have kj := ok_at hg.v (j : Int) (by omega) (by omega)
    have hwr := hg.wrap (a := 0) (b := j) (by omega) (by omega)
    refine EvP.step (fun k => ?_) (ih (j + 1) (x8.set (j : Int).toNat (cst l w 0 j)) (by omega) (by simp [h8]) (fun b hbj => ?_))
    · simp only [tour_span.l0]
      rw [if_pos (by omega), if_pos (by omega), if_pos (by omega), if_pos (by omega), dist_eq k0 kj]
      simp only [Option.bind_some]
      rw [if_pos (by omega), if_pos (by omega), if_pos (by omega), hw]
      have e : wrap64 (wrap64 (dst (rd_T31 l 0) (rd_T31 l (j : Int)) + rd w 0) + rd w (j : Int)) = cst l w 0 j := hwr
      rw [e]
    · rw [rd_set x8 (j : Int) (b : Int) _ (by omega) (by omega) (by omega)]
      by_cases he : (j : Int) = (b : Int)
      · rw [if_pos he, show b = j by omega]
      · rw [if_neg he]
        exact hb b (by omega)
/-- The sum of span is that of a run. -/
theorem span_ev {l : List S31} {w : List Int} (hg : Good l w) : EvP (fun k => tour_span.f k l w) (fun q => Run (cst l w) l.length (fun x => (x : Int) ∈ [(0 : Int)]) (l.length - 1) q.1) := by
  have n0 := hg.n0
  have n1 := hg.n1
  have hlen : ((l.length : Int)).toNat = l.length := by omega
  have key : EvP (fun k => tour_span.l0 k l w (List.replicate l.length 0) ((List.replicate l.length false).set (0 : Int).toNat true) (List.replicate l.length 0) (List.replicate l.length 0) (l.length : Int) ((0 : Nat) : Int)) (fun q => Run (cst l w) l.length (fun x => (x : Int) ∈ [(0 : Int)]) (l.length - 1) q.1) := by
    refine span_l0 hg _ _ _ _ (fun x8 h8 hc => ?_) l.length 0 (List.replicate l.length 0) (by omega) (by simp) (fun b hb => by omega)
    obtain ⟨q, hq, t, ht, he⟩ := span_l1 hg (l.length - 1) 0 0 [0] (List.replicate l.length 0) ((List.replicate l.length false).set (0 : Int).toNat true) x8 (List.replicate l.length 0) rfl (by omega) (by simp) (fun x hx => by rw [List.mem_singleton] at hx; omega)
      ⟨by simp, by simp, h8, by simp, fun b hb => by
        rw [rdOf_set _ 0 (b : Int) (by omega) (by simp; omega) (by omega), List.mem_singleton]
        by_cases h0 : (0 : Int) = (b : Int)
        · rw [if_pos h0]; exact ⟨fun _ => h0.symm, fun _ => rfl⟩
        · rw [if_neg h0]
          have : rdOf false (List.replicate l.length false) (b : Int) = false := by unfold rdOf; simp [List.getD, hb]
          rw [this]
          exact ⟨fun h => (by cases h), fun h => absurd h.symm h0⟩, fun b hb => by
        have : rd (List.replicate l.length 0) (b : Int) = 0 := by unfold rd; simp [List.getD, hb]
        rw [this]; omega⟩ (fun b hb hn => by
        have hS : ∀ u, insS [0] u ↔ u = 0 := fun u => by unfold insS; rw [List.mem_singleton]; omega
        refine ⟨⟨0, (hS 0).2 rfl, by omega, hc b hb⟩, fun u hu hul => ?_⟩
        rw [(hS u).1 hu, hc b hb]
        exact Int.le_refl _) (by omega) (by omega)
    refine ⟨q, hq, ?_⟩
    show Run (cst l w) l.length (insS [0]) (l.length - 1) q.1
    rw [he, Int.zero_add]
    exact ht
  obtain ⟨q, hq, hp⟩ := key
  refine ⟨q, ?_, hp⟩
  unfold tour_span.f
  simp only [if_pos (show 0 ≤ (l.length : Int) by omega), hlen, if_pos (show l.length ≤ 35184372088832 by omega), Option.bind_some, if_neg (show ¬ (l.length : Int) = 0 by omega), if_pos (show l.length ≤ 281474976710656 by omega), List.length_replicate, if_pos (show 0 < (l.length : Int) by omega)]
  exact hq
/-- Both sums are one number. -/
theorem trees {l : List S31} {w : List Int} (hg : Good l w) : ∃ t p, Ev (fun k => tour_span.f k l w) (t, p) ∧ Ev (fun k => swarfref38_tree.f k l w) t ∧ Run (cst l w) l.length (fun x => (x : Int) ∈ [(0 : Int)]) (l.length - 1) t := by
  obtain ⟨⟨t, p⟩, h1, h2⟩ := span_ev hg
  obtain ⟨u, h3, h4⟩ := tree_ev hg
  have : t = u := Run.same (cst_sym l w) h2 h4
  subst this
  exact ⟨t, p, h1, h3, h2⟩
end Go.Proofs.Ytohjocajaanhaaa.B

-- PRINTED by print.py (a twelfth state) out of the translation. Not trusted: Lean checks it.

namespace Go.Proofs.Ytohjocajaanhaaa.P
open Go.RowKit Go.Proofs.YtohjocajaanhaaaW.PrintWords Go.Proofs.YtohjocajaanhaaaW.PrintLast Go.Proofs.YtohjocajaanhaaaW.PrintMore
attribute [local go_sem] max2_int min2_int max_two min_two max_three min_three max_four min_four   -- for this text's walks alone
set_option linter.unusedVariables false
set_option linter.unusedSimpArgs false

/-! ### swarfref38_Bound: function 25 -/
mutual
def swarfref38_Bound.j0 : Nat → List (S31) → List Int → Bool → Option (Int × Int)
 | 0, _, _, _ => none
 | k + 1, x0, x1, x25 => if x25 = true then (some (0, 1)) else (swarfref38_Bound.l0 k x0 x1 0 0)
def swarfref38_Bound.l0 : Nat → List (S31) → List Int → Int → Int → Option (Int × Int)
 | 0, _, _, _, _ => none
 | k + 1, x0, x1, x7, x8 => if x8 < (x1.length : Int) then (if 0 ≤ x8 then (if (rd x1 x8) > 20000000 then (some (0, 11)) else (if (rd x1 x8) < (-20000000) then (some (0, 11)) else (swarfref38_Bound.l0 k x0 x1 (wrap64 (x7 + (rd x1 x8))) (wrap64 (x8 + 1))))) else (none)) else (if (x0.length : Int) = 1 then (some (0, 0)) else (if 1 < (x1.length : Int) then (swarfref38_Bound.l1 k x0 x1 x7 (rd x1 1) 1) else (none)))
def swarfref38_Bound.l1 : Nat → List (S31) → List Int → Int → Int → Int → Option (Int × Int)
 | 0, _, _, _, _, _ => none
 | k + 1, x0, x1, x7, x9, x10 => if x10 < (x1.length : Int) then (if 0 ≤ x10 then (swarfref38_Bound.l1 k x0 x1 x7 (mn x9 (rd x1 x10)) (wrap64 (x10 + 1))) else (none)) else ((swarfref38_tree.f k x0 x1).bind fun t427 => (if 0 < (x1.length : Int) then (some (wrap64 ((wrap64 ((wrap64 (t427 - (wrap64 (2 * x7)))) + (rd x1 0))) + x9), 0)) else (none)))
end
def swarfref38_Bound.f (k : Nat) (l0 : List (S31)) (l1 : List Int) : Option (Int × Int) := (swarfref38_Valid.f k l0 200).bind fun t421 => (if t421 = 0 then (if (l0.length : Int) = 0 then (swarfref38_Bound.j0 k l0 l1 true) else (swarfref38_Bound.j0 k l0 l1 ((l1.length : Int) != (l0.length : Int)))) else (some (0, t421)))
theorem swarfref38_Bound.mono_l : ∀ k, (∀ y0 y1 y2, LeO (swarfref38_Bound.j0 k y0 y1 y2) (swarfref38_Bound.j0 (k + 1) y0 y1 y2)) ∧ (∀ y0 y1 y2 y3, LeO (swarfref38_Bound.l0 k y0 y1 y2 y3) (swarfref38_Bound.l0 (k + 1) y0 y1 y2 y3)) ∧ (∀ y0 y1 y2 y3 y4, LeO (swarfref38_Bound.l1 k y0 y1 y2 y3 y4) (swarfref38_Bound.l1 (k + 1) y0 y1 y2 y3 y4))
 | 0 => ⟨fun _ _ _ r h => by simp [swarfref38_Bound.j0] at h, fun _ _ _ _ r h => by simp [swarfref38_Bound.l0] at h, fun _ _ _ _ _ r h => by simp [swarfref38_Bound.l1] at h⟩
 | k + 1 => by
  obtain ⟨ih0, ih1, ih2⟩ := swarfref38_Bound.mono_l k
  refine ⟨?_, ?_, ?_⟩
  ·intro y0 y1 y2
   unfold swarfref38_Bound.j0
   repeat' first
   | (with_reducible exact ih0 _ _ _)
   | (with_reducible exact ih1 _ _ _ _)
   | (with_reducible exact ih2 _ _ _ _ _)
   | (with_reducible exact swarfref38_Valid.mono _ _ _)
   | (with_reducible exact swarfref38_tree.mono _ _ _)
   | (with_reducible exact LeO.refl _)
   | (with_reducible exact LeO.none _)
   | (with_reducible refine LeO.ite ?_ ?_)
   | (with_reducible refine LeO.bind ?_ (fun _ => ?_))
   | exact ih0 _ _ _
   | exact ih1 _ _ _ _
   | exact ih2 _ _ _ _ _
   | exact swarfref38_Valid.mono _ _ _
   | exact swarfref38_tree.mono _ _ _
   | exact LeO.none _
   | refine LeO.ite ?_ ?_
   | refine LeO.bind ?_ (fun _ => ?_)
  ·intro y0 y1 y2 y3
   unfold swarfref38_Bound.l0
   repeat' first
   | (with_reducible exact ih0 _ _ _)
   | (with_reducible exact ih1 _ _ _ _)
   | (with_reducible exact ih2 _ _ _ _ _)
   | (with_reducible exact swarfref38_Valid.mono _ _ _)
   | (with_reducible exact swarfref38_tree.mono _ _ _)
   | (with_reducible exact LeO.refl _)
   | (with_reducible exact LeO.none _)
   | (with_reducible refine LeO.ite ?_ ?_)
   | (with_reducible refine LeO.bind ?_ (fun _ => ?_))
   | exact ih0 _ _ _
   | exact ih1 _ _ _ _
   | exact ih2 _ _ _ _ _
   | exact swarfref38_Valid.mono _ _ _
   | exact swarfref38_tree.mono _ _ _
   | exact LeO.none _
   | refine LeO.ite ?_ ?_
   | refine LeO.bind ?_ (fun _ => ?_)
  ·intro y0 y1 y2 y3 y4
   unfold swarfref38_Bound.l1
   repeat' first
   | (with_reducible exact ih0 _ _ _)
   | (with_reducible exact ih1 _ _ _ _)
   | (with_reducible exact ih2 _ _ _ _ _)
   | (with_reducible exact swarfref38_Valid.mono _ _ _)
   | (with_reducible exact swarfref38_tree.mono _ _ _)
   | (with_reducible exact LeO.refl _)
   | (with_reducible exact LeO.none _)
   | (with_reducible refine LeO.ite ?_ ?_)
   | (with_reducible refine LeO.bind ?_ (fun _ => ?_))
   | exact ih0 _ _ _
   | exact ih1 _ _ _ _
   | exact ih2 _ _ _ _ _
   | exact swarfref38_Valid.mono _ _ _
   | exact swarfref38_tree.mono _ _ _
   | exact LeO.none _
   | refine LeO.ite ?_ ?_
   | refine LeO.bind ?_ (fun _ => ?_)
theorem swarfref38_Bound.mono : ∀ a0 a1 k, LeO (swarfref38_Bound.f k a0 a1) (swarfref38_Bound.f (k + 1) a0 a1) := by
 intro a0 a1 k
 obtain ⟨ih0, ih1, ih2⟩ := swarfref38_Bound.mono_l k
 unfold swarfref38_Bound.f
 repeat' first
   | (with_reducible exact ih0 _ _ _)
   | (with_reducible exact ih1 _ _ _ _)
   | (with_reducible exact ih2 _ _ _ _ _)
   | (with_reducible exact swarfref38_Valid.mono _ _ _)
   | (with_reducible exact swarfref38_tree.mono _ _ _)
   | (with_reducible exact LeO.refl _)
   | (with_reducible exact LeO.none _)
   | (with_reducible refine LeO.ite ?_ ?_)
   | (with_reducible refine LeO.bind ?_ (fun _ => ?_))
   | exact ih0 _ _ _
   | exact ih1 _ _ _ _
   | exact ih2 _ _ _ _ _
   | exact swarfref38_Valid.mono _ _ _
   | exact swarfref38_tree.mono _ _ _
   | exact LeO.none _
   | refine LeO.ite ?_ ?_
   | refine LeO.bind ?_ (fun _ => ?_)
def swarfref38_Bound.T20 : Bool × List (List Nat × List Nat) := (true, [([], []), ([], []), ([0, 1], [0, 1]), ([], []), ([3], [3]), ([2, 4], [2, 4]), ([], []), ([6], [6]), ([7], [7]), ([5, 8], [5, 8]), ([], []), ([9, 10], [9, 10]), ([11, 2, 0, 1, 2, 3, 4, 5, 6, 7, 8, 9, 10, 11], [11]), ([12, 0, 1, 2, 3, 4, 5, 6, 7, 8, 9, 10, 11, 12], [])])
def swarfref38_Bound.B20 : List Nat := [0, 0, 3, 0, 8, 31, 0, 64, 192, 511, 0, 2047, 4095, 8191]
theorem swarfref38_Bound.tab20 : rtab .any (opsOf Try.f25 20) = swarfref38_Bound.T20 := by kernel_rfl
theorem swarfref38_Bound.bits20 : waitsOk swarfref38_Bound.T20.2 swarfref38_Bound.B20 = true := by kernel_rfl
set_option maxHeartbeats 8000000 in
set_option maxRecDepth 100000 in
theorem swarfref38_Bound.calls (k : Nat) (A0 : Option Addr) (c0 : Nat) (l0 : List (S31)) (A1 : Option Addr) (c1 : Nat) (l1 : List Int) (r1 : Int) (r2 : Int) (w : World) (hr0 : Kd.C k31 w A0 l0.length l0) (hc0 : l0.length ≤ c0) (hr1 : Kd.C (Kd.int .i64) w A1 l1.length l1) (hc1 : l1.length ≤ c1) (h : swarfref38_Bound.f k l0 l1 = some (r1, r2)) :
  Calls Try.prog 25 #[.slice A0 l0.length c0, .slice A1 l1.length c1] w fun e w' => e = .returned (.tuple #[.int .i64 r1, .int .i64 r2]) ∧ Below w.heap.size w w' := by
 have HR0 := Aside0.mk hr0
 have HC0 := Aside0.mk hc0
 clear hr0 hc0
 have HR1 := Aside0.mk hr1
 have HC1 := Aside0.mk hc1
 clear hr1 hc1
 have HB := Aside0.mk (Below.refl w.heap.size w)
 have H : ((swarfref38_Valid.f k l0 200).bind fun t421 => (if t421 = 0 then (if (l0.length : Int) = 0 then (swarfref38_Bound.j0 k l0 l1 true) else (swarfref38_Bound.j0 k l0 l1 ((l1.length : Int) != (l0.length : Int)))) else (some (0, t421)))) = some (r1, r2) := h
 clear h
 replace H := Option.bind_eq_some_iff.mp H
 obtain ⟨t421, A30, H⟩ := H
 replace H : (if t421 = 0 then (if (l0.length : Int) = 0 then (swarfref38_Bound.j0 k l0 l1 true) else (swarfref38_Bound.j0 k l0 l1 ((l1.length : Int) != (l0.length : Int)))) else (some (0, t421))) = some (r1, r2) := H
 have A3 := Aside0.mk A30
 clear A30
 by_cases c4 : t421 = 0
 ·rw [if_pos c4] at H
  have c4b0 : (t421 == 0) = true := beq_iff_eq.mpr c4
  have c4b1 : (t421 != 0) = false := bne_eq_false_iff_eq.mpr c4
  clear c4
  have HC5 := Aside0.mk H
  clear H
  go_enter Try.func25, Try.ntmps25
  go_upto_region 4 with (first | ((with_reducible refine gate_callee (f := 31) rfl ?_); refine goesL_ (some 12) rfl rfl Try.func31 (by kernel_rfl) rfl #[.slice A0 l0.length c0, .int .i64 200] rfl (by (try simp only [List.map_toArray, List.map_cons, List.map_nil]); first | done | rfl | (simp only [List.length_drop, List.length_take]; rfl)) ?_; (with_reducible refine (swarfref38_Valid.calls k _ _ l0 200 t421 _ ?side1 ?side2 A3.out).mono ?_); (case side1 => repeat (first | exact HR0.out | (with_reducible refine Kd.C_alloc ?_ _) | (with_reducible refine Kd.C_drewN ?_ _) | (with_reducible refine Kd.C_drew ?_))); (case side2 => exact HC0.out); rintro e w' ⟨rfl, ⟨nd, rfl⟩⟩; refine ⟨_, rfl, ?_⟩))
  (try simp only [Act.put, List.setIfInBounds_toArray, List.set_cons_zero, List.set_cons_succ])
  go_cut [25] (fun v25 wc => ∃ (kq : Nat) (x25_4 : Bool), v25 = .bool x25_4 ∧ Aside0 (swarfref38_Bound.j0 kq l0 l1 x25_4 = some (r1, r2)) ∧ Aside0 (kq ≤ k) ∧ Aside0 (Below w.heap.size w wc))
  case first =>
   have H := HC5.out
   clear HC5
   by_cases c6 : (l0.length : Int) = 0
   ·rw [if_pos c6] at H
    have c6b0 : ((l0.length : Int) == 0) = true := beq_iff_eq.mpr c6
    have c6b1 : ((l0.length : Int) != 0) = false := bne_eq_false_iff_eq.mpr c6
    clear c6
    (first | rw [c6b0] | (simp only [i64_w, i32_w]; rw [c6b0]) | skip)
    have H' := Aside0.mk H
    clear H
    go_wp2
    go_meet
    case rel => exact ⟨_, (true), (by first | rfl | (simp; done) | (simp [*]; done)), H', ⟨by first | omega | exact Nat.le_refl _⟩, ⟨by repeat (first | (with_reducible first | exact HB.out | apply below_alloc | apply pw_below_drewN | apply below_drew1) | exact HB.out)⟩⟩
   ·rw [if_neg c6] at H
    have c6b0 : ((l0.length : Int) == 0) = false := beq_eq_false_iff_ne.mpr c6
    have c6b1 : ((l0.length : Int) != 0) = true := bne_iff_ne.mpr c6
    have c6b2 : ¬ (l0 = []) := fun h_ => c6 (by rw [h_]; rfl)
    (first | rw [c6b0] | (simp only [i64_w, i32_w]; rw [c6b0]) | skip)
    have H' := Aside0.mk H
    clear H
    go_wp2
    go_meet
    case rel => exact ⟨_, (((l1.length : Int) != (l0.length : Int))), (by first | rfl | (simp; done) | (simp [*]; done)), H', ⟨by first | omega | exact Nat.le_refl _⟩, ⟨by repeat (first | (with_reducible first | exact HB.out | apply below_alloc | apply pw_below_drewN | apply below_drew1) | exact HB.out)⟩⟩
  case rest =>
   clear HC5
   try clear c1
   try clear c2
   try clear p2
   try clear c3
   try clear c4
   try clear c4b0
   try clear c4b1
   try clear c6
   try clear c6b0
   try clear c6b1
   try clear c6b2
   obtain ⟨kq, x25_4, rfl, HA, HJ4, HB⟩ := hcut
   cases kq with
   | zero => exact absurd HA.out (by simp [swarfref38_Bound.j0])
   | succ kj4 =>
    have H := HA.out
    clear HA
    simp only [swarfref38_Bound.j0] at H
    by_cases c7 : x25_4 = true
    ·subst c7
     have H1 : (some (0, 1)) = some (r1, r2) := by rw [if_pos rfl] at H; exact H
     clear H
     have H := H1
     clear H1
     simp only [Option.some.injEq, Prod.mk.injEq] at H
     obtain ⟨rfl, rfl⟩ := H
     go_wp2
     go_ret2
     exact ⟨by first | rfl | (simp [errW_none, errW_some] <;> rfl) | (simp [*, errW_none, errW_some] <;> rfl), by repeat (first | (with_reducible first | exact HB.out | apply below_alloc | apply pw_below_drewN | apply below_drew1) | exact HB.out)⟩
    ·replace c7 := Bool.eq_false_iff.mpr c7
     subst c7
     have H1 : (swarfref38_Bound.l0 kj4 l0 l1 0 0) = some (r1, r2) := by rw [if_neg (show ¬ (false = true) by decide)] at H; exact H
     clear H
     have H := H1
     clear H1
     have H' := Aside0.mk H
     clear H
     go_wp2
     go_loopg [7, 8] kj4 (fun kq v7 v8 w' => ∃ (x7_2 : Int) (x8_2 : Int), v7 = .int .i64 x7_2 ∧ v8 = .int .i64 x8_2 ∧ Aside0 (swarfref38_Bound.l0 kq l0 l1 x7_2 x8_2 = some (r1, r2)) ∧ Aside0 (kq ≤ kj4) ∧ Aside0 (Below w.heap.size w w'))
     case atStart => exact ⟨(0), (0), (by first | rfl | (simp; done) | (simp [*]; done)), (by first | rfl | (simp; done) | (simp [*]; done)), H', ⟨Nat.le_refl _⟩, ⟨by repeat (first | (with_reducible first | exact HB.out | apply below_alloc | apply pw_below_drewN | apply below_drew1) | exact HB.out)⟩⟩
     case round =>
      clear H'
      try clear c1
      try clear c2
      try clear p2
      try clear c3
      try clear c4
      try clear c4b0
      try clear c4b1
      try clear c6
      try clear c6b0
      try clear c6b1
      try clear c6b2
      try clear c7
      try clear p2
      obtain ⟨x7_2, x8_2, rfl, rfl, HA, HK2, HB⟩ := hrel
      cases gk with
      | zero => exact absurd HA.out (by simp [swarfref38_Bound.l0])
      | succ k2 =>
       have H := HA.out
       clear HA
       simp only [swarfref38_Bound.l0] at H
       by_cases c8 : x8_2 < (l1.length : Int)
       ·rw [if_pos c8] at H
        have c8b0 : decide (x8_2 < (l1.length : Int)) = true := decide_eq_true c8
        clear c8
        by_cases c9 : 0 ≤ x8_2
        ·rw [if_pos c9] at H
         have c9b0 : decide (0 ≤ x8_2) = true := decide_eq_true c9
         clear c9
         by_cases c10 : (rd l1 x8_2) > 20000000
         ·rw [if_pos c10] at H
          have c10b0 : decide (20000000 < (rd l1 x8_2)) = true := decide_eq_true c10
          clear c10
          simp only [Option.some.injEq, Prod.mk.injEq] at H
          obtain ⟨rfl, rfl⟩ := H
          have p422 : 0 ≤ (x8_2 : Int) := of_decide_eq_true (by first | (with_reducible assumption) | assumption)
          have q422 : x8_2 < (l1.length : Int) := of_decide_eq_true (by first | (with_reducible assumption) | assumption)
          obtain ⟨ad422, e422, hx422_0⟩ := Kd.at_int HR1.out x8_2 p422 q422
          cases e422
          replace hx422_0 := (HB.out.cell (World.block_lt_of_cell? w _ hx422_0)).trans hx422_0
          replace p422 := eq_true p422
          replace q422 := eq_true q422
          go_wp2
          go_ret2
          exact ⟨by first | rfl | (simp [errW_none, errW_some] <;> rfl) | (simp [*, errW_none, errW_some] <;> rfl), by repeat (first | (with_reducible first | exact HB.out | apply below_alloc | apply pw_below_drewN | apply below_drew1) | exact HB.out)⟩
         ·rw [if_neg c10] at H
          have c10b0 : decide (20000000 < (rd l1 x8_2)) = false := decide_eq_false c10
          clear c10
          by_cases c11 : (rd l1 x8_2) < (-20000000)
          ·rw [if_pos c11] at H
           have c11b0 : decide ((rd l1 x8_2) < (-20000000)) = true := decide_eq_true c11
           clear c11
           simp only [Option.some.injEq, Prod.mk.injEq] at H
           obtain ⟨rfl, rfl⟩ := H
           have p422 : 0 ≤ (x8_2 : Int) := of_decide_eq_true (by first | (with_reducible assumption) | assumption)
           have q422 : x8_2 < (l1.length : Int) := of_decide_eq_true (by first | (with_reducible assumption) | assumption)
           obtain ⟨ad422, e422, hx422_0⟩ := Kd.at_int HR1.out x8_2 p422 q422
           cases e422
           replace hx422_0 := (HB.out.cell (World.block_lt_of_cell? w _ hx422_0)).trans hx422_0
           replace p422 := eq_true p422
           replace q422 := eq_true q422
           have p423 : 0 ≤ (x8_2 : Int) := of_decide_eq_true (by first | (with_reducible assumption) | assumption)
           have q423 : x8_2 < (l1.length : Int) := of_decide_eq_true (by first | (with_reducible assumption) | assumption)
           obtain ⟨ad423, e423, hx423_0⟩ := Kd.at_int HR1.out x8_2 p423 q423
           obtain rfl : ad422 = ad423 := (by injection e423)
           replace hx423_0 := (HB.out.cell (World.block_lt_of_cell? w _ hx423_0)).trans hx423_0
           replace p423 := eq_true p423
           replace q423 := eq_true q423
           go_wp2
           go_ret2
           exact ⟨by first | rfl | (simp [errW_none, errW_some] <;> rfl) | (simp [*, errW_none, errW_some] <;> rfl), by repeat (first | (with_reducible first | exact HB.out | apply below_alloc | apply pw_below_drewN | apply below_drew1) | exact HB.out)⟩
          ·rw [if_neg c11] at H
           have c11b0 : decide ((rd l1 x8_2) < (-20000000)) = false := decide_eq_false c11
           clear c11
           have H' := Aside0.mk H
           clear H
           have p422 : 0 ≤ (x8_2 : Int) := of_decide_eq_true (by first | (with_reducible assumption) | assumption)
           have q422 : x8_2 < (l1.length : Int) := of_decide_eq_true (by first | (with_reducible assumption) | assumption)
           obtain ⟨ad422, e422, hx422_0⟩ := Kd.at_int HR1.out x8_2 p422 q422
           cases e422
           replace hx422_0 := (HB.out.cell (World.block_lt_of_cell? w _ hx422_0)).trans hx422_0
           replace p422 := eq_true p422
           replace q422 := eq_true q422
           have p423 : 0 ≤ (x8_2 : Int) := of_decide_eq_true (by first | (with_reducible assumption) | assumption)
           have q423 : x8_2 < (l1.length : Int) := of_decide_eq_true (by first | (with_reducible assumption) | assumption)
           obtain ⟨ad423, e423, hx423_0⟩ := Kd.at_int HR1.out x8_2 p423 q423
           obtain rfl : ad422 = ad423 := (by injection e423)
           replace hx423_0 := (HB.out.cell (World.block_lt_of_cell? w _ hx423_0)).trans hx423_0
           replace p423 := eq_true p423
           replace q423 := eq_true q423
           have p424 : 0 ≤ (x8_2 : Int) := of_decide_eq_true (by first | (with_reducible assumption) | assumption)
           have q424 : x8_2 < (l1.length : Int) := of_decide_eq_true (by first | (with_reducible assumption) | assumption)
           obtain ⟨ad424, e424, hx424_0⟩ := Kd.at_int HR1.out x8_2 p424 q424
           obtain rfl : ad422 = ad424 := (by injection e424)
           replace hx424_0 := (HB.out.cell (World.block_lt_of_cell? w _ hx424_0)).trans hx424_0
           replace p424 := eq_true p424
           replace q424 := eq_true q424
           go_wp2
           go_roundg k2
           case measure => have := HJ4.out; have := HK2.out; omega
           case rel => exact ⟨(wrap64 (x7_2 + (rd l1 x8_2))), (wrap64 (x8_2 + 1)), (by first | rfl | (simp; done) | (simp [*]; done)), (by first | rfl | (simp; done) | (simp [*]; done)), H', ⟨by have := HJ4.out; have := HK2.out; omega⟩, ⟨by repeat (first | (with_reducible first | exact HB.out | apply below_alloc | apply pw_below_drewN | apply below_drew1) | exact HB.out)⟩⟩
        ·rw [if_neg c9] at H
         exact absurd H (by simp)
       ·rw [if_neg c8] at H
        have c8b0 : decide (x8_2 < (l1.length : Int)) = false := decide_eq_false c8
        clear c8
        by_cases c12 : (l0.length : Int) = 1
        ·rw [if_pos c12] at H
         have c12b0 : ((l0.length : Int) == 1) = true := beq_iff_eq.mpr c12
         have c12b1 : ((l0.length : Int) != 1) = false := bne_eq_false_iff_eq.mpr c12
         clear c12
         simp only [Option.some.injEq, Prod.mk.injEq] at H
         obtain ⟨rfl, rfl⟩ := H
         go_wp2
         go_ret2
         exact ⟨by first | rfl | (simp [errW_none, errW_some] <;> rfl) | (simp [*, errW_none, errW_some] <;> rfl), by repeat (first | (with_reducible first | exact HB.out | apply below_alloc | apply pw_below_drewN | apply below_drew1) | exact HB.out)⟩
        ·rw [if_neg c12] at H
         have c12b0 : ((l0.length : Int) == 1) = false := beq_eq_false_iff_ne.mpr c12
         have c12b1 : ((l0.length : Int) != 1) = true := bne_iff_ne.mpr c12
         by_cases c13 : 1 < (l1.length : Int)
         ·rw [if_pos c13] at H
          have c13b0 : decide (1 < (l1.length : Int)) = true := decide_eq_true c13
          have c13b1 : decide (1 < l1.length) = true := decide_eq_true (by omega)
          clear c13
          have H' := Aside0.mk H
          clear H
          have p425 : 0 ≤ (1 : Int) := (by omega)
          have q425 : 1 < (l1.length : Int) := of_decide_eq_true (by first | (with_reducible assumption) | assumption)
          obtain ⟨ad425, e425, hx425_0⟩ := Kd.at_int HR1.out 1 p425 q425
          cases e425
          (try simp only [show (1 : Int).toNat = 1 from rfl, Nat.reduceMul, Nat.reduceEqDiff, Go.Addr.add, ↓reduceIte] at hx425_0)
          have qi425 : (1 < l1.length) = True := eq_true (by omega)
          (try rw [show ((1 : Int)).toNat = 1 from rfl] at hx425_0)
          replace hx425_0 := (HB.out.cell (World.block_lt_of_cell? w _ hx425_0)).trans hx425_0
          replace p425 := eq_true p425
          replace q425 := eq_true q425
          go_wp2
          go_loopg [9, 10] k2 (fun kq v9 v10 w' => ∃ (x9_3 : Int) (x10_3 : Int), v9 = .int .i64 x9_3 ∧ v10 = .int .i64 x10_3 ∧ Aside0 (swarfref38_Bound.l1 kq l0 l1 x7_2 x9_3 x10_3 = some (r1, r2)) ∧ Aside0 (kq ≤ k2) ∧ Aside0 (Below w.heap.size w w'))
          case atStart => exact ⟨(rd l1 1), (1), (by first | rfl | (simp; done) | (simp [*]; done)), (by first | rfl | (simp; done) | (simp [*]; done)), H', ⟨Nat.le_refl _⟩, ⟨by repeat (first | (with_reducible first | exact HB.out | apply below_alloc | apply pw_below_drewN | apply below_drew1) | exact HB.out)⟩⟩
          case round =>
           clear H'
           try clear c1
           try clear c2
           try clear p2
           try clear c3
           try clear c4
           try clear c4b0
           try clear c4b1
           try clear p4
           try clear q4
           try clear hx4
           try clear qi4
           try clear c6
           try clear c6b0
           try clear c6b1
           try clear c6b2
           try clear p6
           try clear c7
           try clear c8
           try clear c8b0
           try clear c9
           try clear c9b0
           try clear c10
           try clear c10b0
           try clear c11
           try clear c11b0
           try clear c12
           try clear c12b0
           try clear c12b1
           try clear c13
           try clear c13b0
           try clear c13b1
           try clear hx422_0
           try clear hx423_0
           try clear hx424_0
           try clear hx425_0
           try clear p2
           try clear p422
           try clear p423
           try clear p424
           try clear p425
           try clear q422
           try clear q423
           try clear q424
           try clear q425
           obtain ⟨x9_3, x10_3, rfl, rfl, HA, HK3, HB⟩ := hrel
           cases gk with
           | zero => exact absurd HA.out (by simp [swarfref38_Bound.l1])
           | succ k3 =>
            have H := HA.out
            clear HA
            simp only [swarfref38_Bound.l1] at H
            by_cases c14 : x10_3 < (l1.length : Int)
            ·rw [if_pos c14] at H
             have c14b0 : decide (x10_3 < (l1.length : Int)) = true := decide_eq_true c14
             clear c14
             by_cases c15 : 0 ≤ x10_3
             ·rw [if_pos c15] at H
              have c15b0 : decide (0 ≤ x10_3) = true := decide_eq_true c15
              clear c15
              obtain ⟨ji16, hji16⟩ : ∃ j_ : Int, (mn x9_3 (rd l1 x10_3)) = j_ := ⟨_, rfl⟩
              replace H : (swarfref38_Bound.l1 k3 l0 l1 x7_2 ji16 (wrap64 (x10_3 + 1))) = some (r1, r2) := by first | (rw [hji16] at H; exact H) | (simp only [hji16] at H ⊢; exact H)
              have hji16_ : (if (rd l1 x10_3) < x9_3 then (rd l1 x10_3) else x9_3) = ji16 := hji16
              have H' := Aside0.mk H
              clear H
              have p426 : 0 ≤ (x10_3 : Int) := of_decide_eq_true (by first | (with_reducible assumption) | assumption)
              have q426 : x10_3 < (l1.length : Int) := of_decide_eq_true (by first | (with_reducible assumption) | assumption)
              obtain ⟨ad426, e426, hx426_0⟩ := Kd.at_int HR1.out x10_3 p426 q426
              obtain rfl : ad425 = ad426 := (by injection e426)
              replace hx426_0 := (HB.out.cell (World.block_lt_of_cell? w _ hx426_0)).trans hx426_0
              replace p426 := eq_true p426
              replace q426 := eq_true q426
              go_wp2
              go_roundg k3
              case measure => have := HJ4.out; have := HK2.out; have := HK3.out; omega
              case rel => exact ⟨(ji16), (wrap64 (x10_3 + 1)), (by first | rfl | (simp; done) | (simp only [← hji16] <;> (first | rfl | simp)) | (simp [*]; done)), (by first | rfl | (simp; done) | (simp [*]; done)), H', ⟨by have := HJ4.out; have := HK2.out; have := HK3.out; omega⟩, ⟨by repeat (first | (with_reducible first | exact HB.out | apply below_alloc | apply pw_below_drewN | apply below_drew1) | exact HB.out)⟩⟩
             ·rw [if_neg c15] at H
              exact absurd H (by simp)
            ·rw [if_neg c14] at H
             have c14b0 : decide (x10_3 < (l1.length : Int)) = false := decide_eq_false c14
             clear c14
             replace H := Option.bind_eq_some_iff.mp H
             obtain ⟨t427, A170, H⟩ := H
             replace H : (if 0 < (l1.length : Int) then (some (wrap64 ((wrap64 ((wrap64 (t427 - (wrap64 (2 * x7_2)))) + (rd l1 0))) + x9_3), 0)) else (none)) = some (r1, r2) := H
             have A17 := Aside0.mk A170
             clear A170
             by_cases c18 : 0 < (l1.length : Int)
             ·rw [if_pos c18] at H
              have c18b0 : decide (0 < (l1.length : Int)) = true := decide_eq_true c18
              have c18b1 : decide (0 < l1.length) = true := decide_eq_true (by omega)
              clear c18
              simp only [Option.some.injEq, Prod.mk.injEq] at H
              obtain ⟨rfl, rfl⟩ := H
              try go_wp2
              have n0_ := Aside0.mk (below_drew1 HB.out)
              clear HB
              have HB := n0_
              clear n0_
              have p428 : 0 ≤ (0 : Int) := (by omega)
              have q428 : 0 < (l1.length : Int) := of_decide_eq_true (by first | (with_reducible assumption) | assumption)
              obtain ⟨ad428, e428, hx428_0⟩ := Kd.at_int HR1.out 0 p428 q428
              have hw428_0 := hx428_0
              (try rw [show ((0 : Int)).toNat = 0 from rfl] at hw428_0)
              (try rw [show 0 * 1 = 0 from rfl] at hw428_0)
              (try rw [Addr.add_zero'] at hw428_0)
              obtain rfl : ad425 = ad428 := (by injection e428)
              have qi428 : (0 < l1.length) = True := eq_true (by omega)
              (try rw [show ((0 : Int)).toNat = 0 from rfl] at hx428_0)
              (try rw [Addr.add_zero'] at hx428_0)
              replace hx428_0 := (HB.out.cell (World.block_lt_of_cell? w _ hx428_0)).trans hx428_0
              replace p428 := eq_true p428
              replace q428 := eq_true q428
              refine start_ (n := 14) (S := fun w' => w'.cell? ad425 = some (.int .i64 (rd l1 0))) (ds := []) #[false, false, false, false, false, false, false, false, false, false, false, false, false, false] (by kernel_rfl) rfl rfl (((HB.out.cell (World.block_lt_of_cell? w _ hw428_0)).trans hw428_0)) (fun hHeld => ?_); refine with_tabW swarfref38_Bound.tab20 swarfref38_Bound.bits20 (fun HT_ HW_ => ?_)
              generalize wr.drew = w19 at HB hx428_0 hHeld ⊢
              refine pure_ (i := 0) (N := some 68) (v := ?_) (a' := ?_) #[true, false, false, false, false, false, false, false, false, false, false, false, false, false] rfl rfl (any_of HT_.out (by kernel_rfl)) (fun _ _ _ h => h) (Or.inl ⟨by rfl, ?_⟩) ?_ ?_
              rotate_left
              ·intro w'
               go_simp
               with_reducible rfl
              rotate_left
              ·simp only [Act.put, List.setIfInBounds_toArray, List.set_cons_zero, List.set_cons_succ, i64_w, i32_w]
               rfl
              refine pure_ (i := 1) (N := some 69) (v := ?_) (a' := ?_) #[true, true, false, false, false, false, false, false, false, false, false, false, false, false] rfl rfl (any_of HT_.out (by kernel_rfl)) (fun _ _ _ h => h) (Or.inl ⟨by rfl, ?_⟩) ?_ ?_
              rotate_left
              ·intro w'
               go_simp
               with_reducible rfl
              rotate_left
              ·simp only [Act.put, List.setIfInBounds_toArray, List.set_cons_zero, List.set_cons_succ, i64_w, i32_w]
               rfl
              refine pure_ (i := 3) (N := some 71) (v := ?_) (a' := ?_) #[true, true, false, true, false, false, false, false, false, false, false, false, false, false] rfl rfl (any_of HT_.out (by kernel_rfl)) (fun _ _ _ h => h) (Or.inl ⟨by rfl, ?_⟩) ?_ ?_
              rotate_left
              ·intro w'
               go_simp
               with_reducible rfl
              rotate_left
              ·simp only [Act.put, List.setIfInBounds_toArray, List.set_cons_zero, List.set_cons_succ, i64_w, i32_w]
               rfl
              refine pure_ (i := 4) (N := some 72) (v := ?_) (a' := ?_) #[true, true, false, true, true, false, false, false, false, false, false, false, false, false] rfl rfl (any_of HT_.out (by kernel_rfl)) (fun _ _ _ h => h) (Or.inl ⟨by rfl, ?_⟩) ?_ ?_
              rotate_left
              ·intro w'
               go_simp
               with_reducible rfl
              rotate_left
              ·simp only [Act.put, List.setIfInBounds_toArray, List.set_cons_zero, List.set_cons_succ, i64_w, i32_w]
               rfl
              refine pure_ (i := 6) (N := some 74) (v := ?_) (a' := ?_) #[true, true, false, true, true, false, true, false, false, false, false, false, false, false] rfl rfl (any_of HT_.out (by kernel_rfl)) (fun _ _ _ h => h) (Or.inl ⟨by rfl, ?_⟩) ?_ ?_
              rotate_left
              ·intro w'
               go_simp
               with_reducible rfl
              rotate_left
              ·simp only [Act.put, List.setIfInBounds_toArray, List.set_cons_zero, List.set_cons_succ, i64_w, i32_w]
               rfl
              refine pure_ (i := 7) (N := some 75) (v := ?_) (a' := ?_) #[true, true, false, true, true, false, true, true, false, false, false, false, false, false] rfl rfl (any_of HT_.out (by kernel_rfl)) (fun _ _ _ h => h) (Or.inl ⟨by rfl, ?_⟩) ?_ ?_
              rotate_left
              ·intro w'
               go_simp
               with_reducible rfl
              rotate_left
              ·simp only [Act.put, List.setIfInBounds_toArray, List.set_cons_zero, List.set_cons_succ, i64_w, i32_w]
               rfl
              refine pure_ (i := 10) (N := some 78) (v := ?_) (a' := ?_) #[true, true, false, true, true, false, true, true, false, false, true, false, false, false] rfl rfl (any_of HT_.out (by kernel_rfl)) (fun _ _ _ h => h) (Or.inl ⟨by rfl, ?_⟩) ?_ ?_
              rotate_left
              ·intro w'
               go_simp
               with_reducible rfl
              rotate_left
              ·simp only [Act.put, List.setIfInBounds_toArray, List.set_cons_zero, List.set_cons_succ, i64_w, i32_w]
               rfl
              refine take_ (i := 8) (N := some 76) (v := ?_) (a' := ?_) #[true, true, false, true, true, false, true, true, true, false, true, false, false, false] rfl rfl (take_ofW HT_.out HW_.out (by kernel_rfl)) (fun _ _ _ h => h) (Or.inl ⟨by rfl, ?_⟩) hHeld ?_ ?_
              rotate_left
              ·intro w' s0
               go_simp
               with_reducible rfl
              rotate_left
              ·simp only [Act.put, List.setIfInBounds_toArray, List.set_cons_zero, List.set_cons_succ, i64_w, i32_w]
               rfl
              refine one_ (i := 2) (N := some 70) #[true, true, true, true, true, false, true, true, true, false, true, false, false, false] rfl rfl (one_of HT_.out (by kernel_rfl)) (by decide) (fun K hK => ?_)
              refine goes_ Try.func37 (by kernel_rfl) rfl #[.slice A0 l0.length c0, .slice (some ad425) l1.length c1] (by rfl) rfl rfl (by (try simp only [List.map_toArray, List.map_cons, List.map_nil]); first | done | rfl | (simp only [List.length_drop, List.length_take]; rfl)) ?_
              with_reducible refine (swarfref38_tree.calls k3 _ _ l0 _ _ l1 t427 _ ?side1 ?side2 ?side3 ?side4 A17.out).mono ?_
              (case side1 => repeat (first | exact (Kd.C_below HR0.out HB.out) | (with_reducible refine Kd.C_alloc ?_ _) | (with_reducible refine Kd.C_drewN ?_ _) | (with_reducible refine Kd.C_drew ?_)))
              (case side2 => exact HC0.out)
              (case side3 => repeat (first | exact (Kd.C_below HR1.out HB.out) | (with_reducible refine Kd.C_alloc ?_ _) | (with_reducible refine Kd.C_drewN ?_ _) | (with_reducible refine Kd.C_drew ?_)))
              (case side4 => exact HC1.out)
              rintro e w20 ⟨rfl, hb⟩
              refine ⟨_, rfl, ?_⟩
              have n0_ := Aside0.mk (below_step (by repeat (first | (with_reducible first | exact HB.out | apply below_alloc | apply pw_below_drewN | apply below_drew1) | exact HB.out)) hb)
              clear HB
              have HB := n0_
              clear n0_
              (try clear hb)
              (try clear hb2)
              (try clear hk)
              (try clear hi)
              refine hK.out _ _ (((HB.out.cell (World.block_lt_of_cell? w _ hw428_0)).trans hw428_0)) (fun hHeld => ?_)
              clear hK K
              refine norm_ (a' := ?_) ?_ ?_
              rotate_left
              ·show Act.put _ (some 70) _ = _
               simp only [Act.put, List.setIfInBounds_toArray, List.set_cons_zero, List.set_cons_succ, i64_w, i32_w]
               rfl
              refine pure_ (i := 5) (N := some 73) (v := ?_) (a' := ?_) #[true, true, true, true, true, true, true, true, true, false, true, false, false, false] rfl rfl (any_of HT_.out (by kernel_rfl)) (fun _ _ _ h => h) (Or.inl ⟨by rfl, ?_⟩) ?_ ?_
              rotate_left
              ·intro w'
               go_simp
               with_reducible rfl
              rotate_left
              ·simp only [Act.put, List.setIfInBounds_toArray, List.set_cons_zero, List.set_cons_succ, i64_w, i32_w]
               rfl
              refine pure_ (i := 9) (N := some 77) (v := ?_) (a' := ?_) #[true, true, true, true, true, true, true, true, true, true, true, false, false, false] rfl rfl (any_of HT_.out (by kernel_rfl)) (fun _ _ _ h => h) (Or.inl ⟨by rfl, ?_⟩) ?_ ?_
              rotate_left
              ·intro w'
               go_simp
               with_reducible rfl
              rotate_left
              ·simp only [Act.put, List.setIfInBounds_toArray, List.set_cons_zero, List.set_cons_succ, i64_w, i32_w]
               rfl
              refine pure_ (i := 11) (N := some 79) (v := ?_) (a' := ?_) #[true, true, true, true, true, true, true, true, true, true, true, true, false, false] rfl rfl (any_of HT_.out (by kernel_rfl)) (fun _ _ _ h => h) (Or.inl ⟨by rfl, ?_⟩) ?_ ?_
              rotate_left
              ·intro w'
               go_simp
               with_reducible rfl
              rotate_left
              ·simp only [Act.put, List.setIfInBounds_toArray, List.set_cons_zero, List.set_cons_succ, i64_w, i32_w]
               rfl
              refine pure_ (i := 12) (N := some 4) (v := ?_) (a' := ?_) #[true, true, true, true, true, true, true, true, true, true, true, true, true, false] rfl rfl (any_of HT_.out (by kernel_rfl)) (fun _ _ _ h => h) (Or.inl ⟨by rfl, ?_⟩) ?_ ?_
              rotate_left
              ·intro w'
               go_simp
               with_reducible rfl
              rotate_left
              ·simp only [Act.put, List.setIfInBounds_toArray, List.set_cons_zero, List.set_cons_succ, i64_w, i32_w]
               rfl
              refine pure_ (i := 13) (N := some 5) (v := ?_) (a' := ?_) #[true, true, true, true, true, true, true, true, true, true, true, true, true, true] rfl rfl (any_of HT_.out (by kernel_rfl)) (fun _ _ _ h => h) (Or.inl ⟨by rfl, ?_⟩) ?_ ?_
              rotate_left
              ·intro w'
               go_simp
               with_reducible rfl
              rotate_left
              ·simp only [Act.put, List.setIfInBounds_toArray, List.set_cons_zero, List.set_cons_succ, i64_w, i32_w]
               rfl
              refine done_ (done_of HT_.out (by kernel_rfl)) ?_
              try go_wp2
              go_ret2
              exact ⟨by first | rfl | (simp [errW_none, errW_some] <;> rfl) | (simp [*, errW_none, errW_some] <;> rfl), by repeat (first | (with_reducible first | exact HB.out | apply below_alloc | apply pw_below_drewN | apply below_drew1) | exact HB.out)⟩
             ·rw [if_neg c18] at H
              exact absurd H (by simp)
         ·rw [if_neg c13] at H
          exact absurd H (by simp)
 ·rw [if_neg c4] at H
  have c4b0 : (t421 == 0) = false := beq_eq_false_iff_ne.mpr c4
  have c4b1 : (t421 != 0) = true := bne_iff_ne.mpr c4
  simp only [Option.some.injEq, Prod.mk.injEq] at H
  obtain ⟨rfl, rfl⟩ := H
  go_enter Try.func25, Try.ntmps25
  go_wp2_with (first | ((with_reducible refine gate_callee (f := 31) rfl ?_); refine goesL_ (some 12) rfl rfl Try.func31 (by kernel_rfl) rfl #[.slice A0 l0.length c0, .int .i64 200] rfl (by (try simp only [List.map_toArray, List.map_cons, List.map_nil]); first | done | rfl | (simp only [List.length_drop, List.length_take]; rfl)) ?_; (with_reducible refine (swarfref38_Valid.calls k _ _ l0 200 t421 _ ?side1 ?side2 A3.out).mono ?_); (case side1 => repeat (first | exact HR0.out | (with_reducible refine Kd.C_alloc ?_ _) | (with_reducible refine Kd.C_drewN ?_ _) | (with_reducible refine Kd.C_drew ?_))); (case side2 => exact HC0.out); rintro e w' ⟨rfl, ⟨nd, rfl⟩⟩; refine ⟨_, rfl, ?_⟩))
  go_ret2
  exact ⟨by first | rfl | (simp [errW_none, errW_some] <;> rfl) | (simp [*, errW_none, errW_some] <;> rfl), by repeat (first | (with_reducible first | exact HB.out | apply below_alloc | apply pw_below_drewN | apply below_drew1) | exact HB.out)⟩

end Go.Proofs.Ytohjocajaanhaaa.P

/- What Bound answers, in the program and in the reference. Plain numbers and lists. -/

namespace Go.Proofs.Ytohjocajaanhaaa.B
open Go.RowKit Go.Proofs.Ytohjocajaanhaaa.P Go.Proofs.YtohjocajaanhaaaW.PrintWords Go.Proofs.YtohjocajaanhaaaW.PrintLast Go.Proofs.YtohjocajaanhaaaW.PrintMore Go.Proofs.Ytohjocajaanhaaa.Mst
set_option linter.unusedVariables false
set_option linter.unusedSimpArgs false

def sumI : List Int → Int
  | [] => 0
  | x :: xs => x + sumI xs
/-- The least of the weights behind the first. -/
def lastW (w : List Int) : Int := minL (w.drop 1) (w.length - 2)
/-! ### The program -/
/-! ### The reference -/
end Go.Proofs.Ytohjocajaanhaaa.B

-- PRINTED by print.py (a twelfth state) out of the translation. Not trusted: Lean checks it.

namespace Go.Proofs.Ytohjocajaanhaaa.P
open Go.RowKit Go.Proofs.YtohjocajaanhaaaW.PrintWords Go.Proofs.YtohjocajaanhaaaW.PrintLast Go.Proofs.YtohjocajaanhaaaW.PrintMore
attribute [local go_sem] max2_int min2_int max_two min_two max_three min_three max_four min_four   -- for this text's walks alone
set_option linter.unusedVariables false
set_option linter.unusedSimpArgs false

/-! ### swarfref38_search: function 39 -/
mutual
def swarfref38_search.l0 : Nat → List (S31) → List Int → List Int → Int → Option (List Int)
 | 0, _, _, _, _ => none
 | k + 1, x0, x1, x2, x7 => if x7 < (x0.length : Int) then ((swarfref38_has.f k x1 x7).bind fun t387 => (if t387 = true then (swarfref38_search.l0 k x0 x1 x2 (wrap64 (x7 + 1))) else ((some (([] : List Int) : List Int)).bind fun y388 => (if y388.length + x1.length < 17592186044416 then ((some (y388 ++ x1 : List Int)).bind fun y391 => (if y391.length < 17592186044416 then ((swarfref38_search.f k x0 (y391 ++ [x7]) x2).bind fun t397 => (swarfref38_search.l0 k x0 x1 t397 (wrap64 (x7 + 1)))) else (none))) else (none))))) else (some x2)
def swarfref38_search.f : Nat → List (S31) → List Int → List Int → Option (List Int)
 | 0, _, _, _ => none
 | k + 1, l0, l1, l2 => if (l1.length : Int) = (l0.length : Int) then (if (l2.length : Int) = 0 then ((some (([] : List Int) : List Int)).bind fun y373 => (if y373.length + l1.length < 17592186044416 then (some (y373 ++ l1)) else (none))) else ((swarfref38_way.f k l0 l1).bind fun t379 => ((swarfref38_way.f k l0 l2).bind fun t380 => (if t379 < t380 then ((some (([] : List Int) : List Int)).bind fun y381 => (if y381.length + l1.length < 17592186044416 then (some (y381 ++ l1)) else (none))) else (some l2))))) else (swarfref38_search.l0 k l0 l1 l2 0)
end
theorem swarfref38_search.mono_l : ∀ k, (∀ y0 y1 y2, LeO (swarfref38_search.f k y0 y1 y2) (swarfref38_search.f (k + 1) y0 y1 y2)) ∧ (∀ y0 y1 y2 y3, LeO (swarfref38_search.l0 k y0 y1 y2 y3) (swarfref38_search.l0 (k + 1) y0 y1 y2 y3))
 | 0 => ⟨fun _ _ _ r h => by simp [swarfref38_search.f] at h, fun _ _ _ _ r h => by simp [swarfref38_search.l0] at h⟩
 | k + 1 => by
  obtain ⟨ih0, ih1⟩ := swarfref38_search.mono_l k
  refine ⟨?_, ?_⟩
  ·intro y0 y1 y2
   unfold swarfref38_search.f
   repeat' first
   | (with_reducible exact ih0 _ _ _)
   | (with_reducible exact ih1 _ _ _ _)
   | (with_reducible exact swarfref38_has.mono _ _ _)
   | (with_reducible exact swarfref38_way.mono _ _ _)
   | (with_reducible exact LeO.refl _)
   | (with_reducible exact LeO.none _)
   | (with_reducible refine LeO.ite ?_ ?_)
   | (with_reducible refine LeO.bind ?_ (fun _ => ?_))
   | exact ih0 _ _ _
   | exact ih1 _ _ _ _
   | exact swarfref38_has.mono _ _ _
   | exact swarfref38_way.mono _ _ _
   | exact LeO.none _
   | refine LeO.ite ?_ ?_
   | refine LeO.bind ?_ (fun _ => ?_)
  ·intro y0 y1 y2 y3
   unfold swarfref38_search.l0
   repeat' first
   | (with_reducible exact ih0 _ _ _)
   | (with_reducible exact ih1 _ _ _ _)
   | (with_reducible exact swarfref38_has.mono _ _ _)
   | (with_reducible exact swarfref38_way.mono _ _ _)
   | (with_reducible exact LeO.refl _)
   | (with_reducible exact LeO.none _)
   | (with_reducible refine LeO.ite ?_ ?_)
   | (with_reducible refine LeO.bind ?_ (fun _ => ?_))
   | exact ih0 _ _ _
   | exact ih1 _ _ _ _
   | exact swarfref38_has.mono _ _ _
   | exact swarfref38_way.mono _ _ _
   | exact LeO.none _
   | refine LeO.ite ?_ ?_
   | refine LeO.bind ?_ (fun _ => ?_)
theorem swarfref38_search.mono : ∀ a0 a1 a2 k, LeO (swarfref38_search.f k a0 a1 a2) (swarfref38_search.f (k + 1) a0 a1 a2) := by
 intro a0 a1 a2 k
 obtain ⟨ih0, ih1⟩ := swarfref38_search.mono_l k
 exact ih0 a0 a1 a2
set_option maxHeartbeats 8000000 in
set_option maxRecDepth 100000 in
theorem swarfref38_search.calls (k : Nat) : ∀ (A0 : Option Addr) (c0 : Nat) (l0 : List (S31)) (A1 : Option Addr) (c1 : Nat) (l1 : List Int) (P2_ : Nat → Prop) (A2 : Option Addr) (c2 : Nat) (l2 : List Int) (r : List Int) (w : World) (hr0 : Kd.C k31 w A0 l0.length l0) (hc0 : l0.length ≤ c0) (hr1 : Kd.C (Kd.int .i64) w A1 l1.length l1) (hc1 : l1.length ≤ c1) (hs2 : Kd.V (Kd.int .i64) 3 w w.heap.size (fun k_ => P2_ k_) (.slice A2 l2.length c2) l2) (h : swarfref38_search.f k l0 l1 l2 = some r),
  Calls Try.prog 39 #[.slice A0 l0.length c0, .slice A1 l1.length c1, .slice A2 l2.length c2] w fun e w' => ∃ v0_ : Value, e = .returned (v0_) ∧ Kd.V (Kd.int .i64) 3 w' w.heap.size (fun k_ => (P2_ k_ ∨ w.heap.size ≤ k_)) v0_ r ∧ Below w.heap.size w w' := by
 induction k using Nat.strongRecOn with
 | _ k ih =>
 intro A0 c0 l0 A1 c1 l1 P2_ A2 c2 l2 r w hr0 hc0 hr1 hc1 hs2 h
 cases k with
 | zero => exact absurd h (by simp [swarfref38_search.f])
 | succ k =>
 simp only [swarfref38_search.f] at h
 have HR0 := Aside0.mk hr0
 have HC0 := Aside0.mk hc0
 clear hr0 hc0
 have HR1 := Aside0.mk hr1
 have HC1 := Aside0.mk hc1
 clear hr1 hc1
 have HO2 := Aside0.mk (show Kd.V (Kd.int .i64) 3 w w.heap.size (fun k_ => (P2_ k_ ∨ w.heap.size ≤ k_)) (.slice A2 l2.length c2) l2 from Kd.V_mono hs2 (fun k_ hk => .inl hk))
 have HB := Aside0.mk (Below.refl w.heap.size w)
 have H : (if (l1.length : Int) = (l0.length : Int) then (if (l2.length : Int) = 0 then ((some (([] : List Int) : List Int)).bind fun y373 => (if y373.length + l1.length < 17592186044416 then (some (y373 ++ l1)) else (none))) else ((swarfref38_way.f k l0 l1).bind fun t379 => ((swarfref38_way.f k l0 l2).bind fun t380 => (if t379 < t380 then ((some (([] : List Int) : List Int)).bind fun y381 => (if y381.length + l1.length < 17592186044416 then (some (y381 ++ l1)) else (none))) else (some l2))))) else (swarfref38_search.l0 k l0 l1 l2 0)) = some r := h
 clear h
 by_cases c4 : (l1.length : Int) = (l0.length : Int)
 ·rw [if_pos c4] at H
  have c4b0 : ((l1.length : Int) == (l0.length : Int)) = true := beq_iff_eq.mpr c4
  have c4b1 : ((l1.length : Int) != (l0.length : Int)) = false := bne_eq_false_iff_eq.mpr c4
  have c4b2 : (l1.length == l0.length) = true := by first | simpa using c4 | (simp at c4 ⊢; omega)
  clear c4
  by_cases c5 : (l2.length : Int) = 0
  ·rw [if_pos c5] at H
   have c5b0 : ((l2.length : Int) == 0) = true := beq_iff_eq.mpr c5
   have c5b1 : ((l2.length : Int) != 0) = false := bne_eq_false_iff_eq.mpr c5
   clear c5
   obtain ⟨y373, hy373⟩ : ∃ y_ : List Int, y_ = (([] : List Int)) := ⟨_, rfl⟩
   replace H : (if y373.length + l1.length < 17592186044416 then (some (y373 ++ l1)) else (none)) = some r := by first | (rw [hy373]; with_reducible exact H) | (have H2_ := (Option.bind_some _ _).symm.trans H; rw [hy373]; with_reducible exact H2_) | (have H2_ := (Option.bind_some _ _).symm.trans H; with_reducible exact H2_) | with_reducible exact H | (rw [hy373]; exact H) | exact H
   have Ny373 := Aside0.mk hy373
   clear hy373
   by_cases c6 : y373.length + l1.length < 17592186044416
   ·rw [if_pos c6] at H
    have LMc6 := Aside0.mk c6
    clear c6
    obtain ⟨y376, hy376⟩ : ∃ y_ : List Int, y_ = (y373 ++ l1) := ⟨_, rfl⟩
    replace H : (some y376) = some r := by first | (rw [hy376]; with_reducible exact H) | (have H2_ := (Option.bind_some _ _).symm.trans H; rw [hy376]; with_reducible exact H2_) | (have H2_ := (Option.bind_some _ _).symm.trans H; with_reducible exact H2_) | with_reducible exact H | (rw [hy376]; exact H) | exact H
    have Ny376 := Aside0.mk hy376
    clear hy376
    obtain rfl := Option.some.inj H
    go_enter Try.func39, Try.ntmps39
    go_wp2_with (first | ((with_reducible refine gate_dst (N := 25) rfl ?_); refine Kd.R_lit (Kd.int .i64) _ 3 ?hg (N := 25) ?hd (xs := ([] : List Int)) (inner := []) (ok := fun _ => True) (okp := fun _ => True) ?hr ?hp (fun _ hk => hk) trivial (Below.refl _ _) (Nat.le_refl _) (by simp) ?_; (case hd => rfl); (case hg => rfl); (case hr => first | (go_simp; done) | (go_simp; rfl)); (case hp => exact (Reps.none _ _)); intro v374 w7 ho8 hb hg_ hnew_; clear hg_ hnew_; (first | rw [← Ny373.out] at ho8 | (simp only [Int.reduceToNat] at ho8; rw [← Ny373.out] at ho8)); have n0_ := Aside0.mk (Kd.V_elder' (by (with_reducible repeat (first | apply Kd.V_alloc | apply Kd.V_drewN | apply Kd.V_drew)); exact HO2.out) (Kd.R_base ho8) hb); have n1_ := Aside0.mk (Kd.R_lower (Kd.R_newM (M := fun k_ => (w.heap.size ≤ k_)) ho8 (below_size (by repeat (first | (with_reducible first | exact HB.out | apply below_alloc | apply pw_below_drewN | apply below_drew1) | exact HB.out))) (fun k_ h_ => h_)) (below_size (by repeat (first | (with_reducible first | exact HB.out | apply below_alloc | apply pw_below_drewN | apply below_drew1) | exact HB.out)))); have n2_ := Aside0.mk (below_step (by repeat (first | (with_reducible first | exact HB.out | apply below_alloc | apply pw_below_drewN | apply below_drew1) | exact HB.out)) hb); clear HO2; clear HB; have HO2 := n0_; have HO375 := n1_; have HB := n2_; clear n0_ n1_ n2_; clear hb ho8) | ((with_reducible refine gate_builtin (b := .append) (xs := #[.tmp 25, .tmp 26]) rfl ?_); at_builtin; refine Kd.R_append_rows (Kd.int .i64) (w0 := w) w.heap.size rfl (.tmp 25) (.tmp 26) 23 3 (.int .i64 0) 8 rfl Try.underlying23 info3 rfl (by decide) (by omega) v374 y373 l1 _ _ _ (fun k_ => (w.heap.size ≤ k_)) (fun _ => False) rfl rfl ?aO ?aR (fun _ _ h => h) (fun _ h => h.elim) ?aF ?aB ?aS ?aL ?_; (case aR => repeat (first | exact (Kd.C_below HR1.out HB.out) | (with_reducible refine Kd.C_alloc ?_ _) | (with_reducible refine Kd.C_drewN ?_ _) | (with_reducible refine Kd.C_drew ?_))); (case aB => exact (by repeat (first | (with_reducible first | exact HB.out | apply below_alloc | apply pw_below_drewN | apply below_drew1) | exact HB.out))); (case aF => exact (fun k_ hk => (Nat.le_trans (below_size (by repeat (first | (with_reducible first | exact HB.out | apply below_alloc | apply pw_below_drewN | apply below_drew1) | exact HB.out))) hk))); (case aO => exact (by (with_reducible repeat (first | apply Kd.R_alloc | apply Kd.R_drewN | apply Kd.R_drew)); exact Kd.R_mono HO375.out (fun _ hk => hk.1))); (case aS => exact (below_size (by repeat (first | (with_reducible first | exact HB.out | apply below_alloc | apply pw_below_drewN | apply below_drew1) | exact HB.out)))); (case aL => have := LMc6.out; omega); intro v377 w9 ho hb hg hat; rw [← Ny376.out] at ho; have n0_ := Aside0.mk (Kd.V_afterv (ok := (fun k_ => (P2_ k_ ∨ w.heap.size ≤ k_))) (by (with_reducible repeat (first | apply Kd.V_alloc | apply Kd.V_drewN | apply Kd.V_drew)); exact HO2.out) hg hat); have n1_ := Aside0.mk (hb); have n2_ := Aside0.mk (ho); clear HO2; clear HB; clear HO375; have HO2 := n0_; have HB := n1_; have HO378 := n2_; clear n0_ n1_ n2_; clear ho hb hg hat))
    go_ret
    exact ⟨_, by first | rfl | (simp [errW_none, errW_some] <;> rfl) | (simp [*, errW_none, errW_some] <;> rfl), Kd.V_mono (Kd.R_V (by (with_reducible repeat (first | apply Kd.R_alloc | apply Kd.R_drewN | apply Kd.R_drew)); exact HO378.out)) (fun k_ hk => by first | exact ⟨(.inr (hk.1)), hk.2⟩ | exact (.inr (hk))), by repeat (first | (with_reducible first | exact HB.out | apply below_alloc | apply pw_below_drewN | apply below_drew1) | exact HB.out)⟩
   ·rw [if_neg c6] at H
    exact absurd H (by simp)
  ·rw [if_neg c5] at H
   have c5b0 : ((l2.length : Int) == 0) = false := beq_eq_false_iff_ne.mpr c5
   have c5b1 : ((l2.length : Int) != 0) = true := bne_iff_ne.mpr c5
   have c5b2 : ¬ (l2 = []) := fun h_ => c5 (by rw [h_]; rfl)
   replace H := Option.bind_eq_some_iff.mp H
   obtain ⟨t379, A100, H⟩ := H
   replace H : ((swarfref38_way.f k l0 l2).bind fun t380 => (if t379 < t380 then ((some (([] : List Int) : List Int)).bind fun y381 => (if y381.length + l1.length < 17592186044416 then (some (y381 ++ l1)) else (none))) else (some l2))) = some r := H
   have A10 := Aside0.mk A100
   clear A100
   replace H := Option.bind_eq_some_iff.mp H
   obtain ⟨t380, A110, H⟩ := H
   replace H : (if t379 < t380 then ((some (([] : List Int) : List Int)).bind fun y381 => (if y381.length + l1.length < 17592186044416 then (some (y381 ++ l1)) else (none))) else (some l2)) = some r := H
   have A11 := Aside0.mk A110
   clear A110
   by_cases c12 : t379 < t380
   ·rw [if_pos c12] at H
    have c12b0 : decide (t379 < t380) = true := decide_eq_true c12
    clear c12
    obtain ⟨y381, hy381⟩ : ∃ y_ : List Int, y_ = (([] : List Int)) := ⟨_, rfl⟩
    replace H : (if y381.length + l1.length < 17592186044416 then (some (y381 ++ l1)) else (none)) = some r := by first | (rw [hy381]; with_reducible exact H) | (have H2_ := (Option.bind_some _ _).symm.trans H; rw [hy381]; with_reducible exact H2_) | (have H2_ := (Option.bind_some _ _).symm.trans H; with_reducible exact H2_) | with_reducible exact H | (rw [hy381]; exact H) | exact H
    have Ny381 := Aside0.mk hy381
    clear hy381
    by_cases c13 : y381.length + l1.length < 17592186044416
    ·rw [if_pos c13] at H
     have LMc13 := Aside0.mk c13
     clear c13
     obtain ⟨y384, hy384⟩ : ∃ y_ : List Int, y_ = (y381 ++ l1) := ⟨_, rfl⟩
     replace H : (some y384) = some r := by first | (rw [hy384]; with_reducible exact H) | (have H2_ := (Option.bind_some _ _).symm.trans H; rw [hy384]; with_reducible exact H2_) | (have H2_ := (Option.bind_some _ _).symm.trans H; with_reducible exact H2_) | with_reducible exact H | (rw [hy384]; exact H) | exact H
     have Ny384 := Aside0.mk hy384
     clear hy384
     obtain rfl := Option.some.inj H
     go_enter Try.func39, Try.ntmps39
     go_wp2_with (first | (go_at_call 33; (with_reducible refine (swarfref38_way.calls k _ _ l0 _ _ l1 t379 _ ?side1 ?side2 ?side3 ?side4 A10.out).mono ?_); (case side1 => repeat (first | exact HR0.out | (with_reducible refine Kd.C_alloc ?_ _) | (with_reducible refine Kd.C_drewN ?_ _) | (with_reducible refine Kd.C_drew ?_))); (case side2 => exact HC0.out); (case side3 => repeat (first | exact HR1.out | (with_reducible refine Kd.C_alloc ?_ _) | (with_reducible refine Kd.C_drewN ?_ _) | (with_reducible refine Kd.C_drew ?_))); (case side4 => exact HC1.out); rintro e w14 ⟨rfl, hb⟩; have n0_ := Aside0.mk (Kd.V_below (by (with_reducible repeat (first | apply Kd.V_alloc | apply Kd.V_drewN | apply Kd.V_drew)); exact HO2.out) hb); have n1_ := Aside0.mk (below_step (by repeat (first | (with_reducible first | exact HB.out | apply below_alloc | apply pw_below_drewN | apply below_drew1) | exact HB.out)) hb); clear HO2; clear HB; have HO2 := n0_; have HB := n1_; clear n0_ n1_; (try clear hb); (try clear hb2); (try clear hk); (try clear hi)) | (go_at_call 33; (with_reducible refine (swarfref38_way.calls k _ _ l0 _ _ l2 t380 _ ?side1 ?side2 ?side3 ?side4 A11.out).mono ?_); (case side1 => repeat (first | exact (Kd.C_below HR0.out HB.out) | (with_reducible refine Kd.C_alloc ?_ _) | (with_reducible refine Kd.C_drewN ?_ _) | (with_reducible refine Kd.C_drew ?_))); (case side2 => exact HC0.out); (case side3 => repeat (first | exact (Kd.V_reads' HO2.out).2.2 | (with_reducible refine Kd.C_alloc ?_ _) | (with_reducible refine Kd.C_drewN ?_ _) | (with_reducible refine Kd.C_drew ?_))); (case side4 => exact (Kd.V_reads' HO2.out).2.1); rintro e w15 ⟨rfl, hb⟩; have n0_ := Aside0.mk (Kd.V_below (by (with_reducible repeat (first | apply Kd.V_alloc | apply Kd.V_drewN | apply Kd.V_drew)); exact HO2.out) hb); have n1_ := Aside0.mk (below_step (by repeat (first | (with_reducible first | exact HB.out | apply below_alloc | apply pw_below_drewN | apply below_drew1) | exact HB.out)) hb); clear HO2; clear HB; have HO2 := n0_; have HB := n1_; clear n0_ n1_; (try clear hb); (try clear hb2); (try clear hk); (try clear hi)) | ((with_reducible refine gate_dst (N := 25) rfl ?_); refine Kd.R_lit (Kd.int .i64) _ 3 ?hg (N := 25) ?hd (xs := ([] : List Int)) (inner := []) (ok := fun _ => True) (okp := fun _ => True) ?hr ?hp (fun _ hk => hk) trivial (Below.refl _ _) (Nat.le_refl _) (by simp) ?_; (case hd => rfl); (case hg => rfl); (case hr => first | (go_simp; done) | (go_simp; rfl)); (case hp => exact (Reps.none _ _)); intro v382 w16 ho17 hb hg_ hnew_; clear hg_ hnew_; (first | rw [← Ny381.out] at ho17 | (simp only [Int.reduceToNat] at ho17; rw [← Ny381.out] at ho17)); have n0_ := Aside0.mk (Kd.V_elder' (by (with_reducible repeat (first | apply Kd.V_alloc | apply Kd.V_drewN | apply Kd.V_drew)); exact HO2.out) (Kd.R_base ho17) hb); have n1_ := Aside0.mk (Kd.R_lower (Kd.R_newM (M := fun k_ => (w.heap.size ≤ k_)) ho17 (below_size (by repeat (first | (with_reducible first | exact HB.out | apply below_alloc | apply pw_below_drewN | apply below_drew1) | exact HB.out))) (fun k_ h_ => h_)) (below_size (by repeat (first | (with_reducible first | exact HB.out | apply below_alloc | apply pw_below_drewN | apply below_drew1) | exact HB.out)))); have n2_ := Aside0.mk (below_step (by repeat (first | (with_reducible first | exact HB.out | apply below_alloc | apply pw_below_drewN | apply below_drew1) | exact HB.out)) hb); clear HO2; clear HB; have HO2 := n0_; have HO383 := n1_; have HB := n2_; clear n0_ n1_ n2_; clear hb ho17) | ((with_reducible refine gate_builtin (b := .append) (xs := #[.tmp 25, .tmp 26]) rfl ?_); at_builtin; refine Kd.R_append_rows (Kd.int .i64) (w0 := w) w.heap.size rfl (.tmp 25) (.tmp 26) 23 3 (.int .i64 0) 8 rfl Try.underlying23 info3 rfl (by decide) (by omega) v382 y381 l1 _ _ _ (fun k_ => (w.heap.size ≤ k_)) (fun _ => False) rfl rfl ?aO ?aR (fun _ _ h => h) (fun _ h => h.elim) ?aF ?aB ?aS ?aL ?_; (case aR => repeat (first | exact (Kd.C_below HR1.out HB.out) | (with_reducible refine Kd.C_alloc ?_ _) | (with_reducible refine Kd.C_drewN ?_ _) | (with_reducible refine Kd.C_drew ?_))); (case aB => exact (by repeat (first | (with_reducible first | exact HB.out | apply below_alloc | apply pw_below_drewN | apply below_drew1) | exact HB.out))); (case aF => exact (fun k_ hk => (Nat.le_trans (below_size (by repeat (first | (with_reducible first | exact HB.out | apply below_alloc | apply pw_below_drewN | apply below_drew1) | exact HB.out))) hk))); (case aO => exact (by (with_reducible repeat (first | apply Kd.R_alloc | apply Kd.R_drewN | apply Kd.R_drew)); exact Kd.R_mono HO383.out (fun _ hk => hk.1))); (case aS => exact (below_size (by repeat (first | (with_reducible first | exact HB.out | apply below_alloc | apply pw_below_drewN | apply below_drew1) | exact HB.out)))); (case aL => have := LMc13.out; omega); intro v385 w18 ho hb hg hat; rw [← Ny384.out] at ho; have n0_ := Aside0.mk (Kd.V_afterv (ok := (fun k_ => (P2_ k_ ∨ w.heap.size ≤ k_))) (by (with_reducible repeat (first | apply Kd.V_alloc | apply Kd.V_drewN | apply Kd.V_drew)); exact HO2.out) hg hat); have n1_ := Aside0.mk (hb); have n2_ := Aside0.mk (ho); clear HO2; clear HB; clear HO383; have HO2 := n0_; have HB := n1_; have HO386 := n2_; clear n0_ n1_ n2_; clear ho hb hg hat))
     go_ret
     exact ⟨_, by first | rfl | (simp [errW_none, errW_some] <;> rfl) | (simp [*, errW_none, errW_some] <;> rfl), Kd.V_mono (Kd.R_V (by (with_reducible repeat (first | apply Kd.R_alloc | apply Kd.R_drewN | apply Kd.R_drew)); exact HO386.out)) (fun k_ hk => by first | exact ⟨(.inr (hk.1)), hk.2⟩ | exact (.inr (hk))), by repeat (first | (with_reducible first | exact HB.out | apply below_alloc | apply pw_below_drewN | apply below_drew1) | exact HB.out)⟩
    ·rw [if_neg c13] at H
     exact absurd H (by simp)
   ·rw [if_neg c12] at H
    have c12b0 : decide (t379 < t380) = false := decide_eq_false c12
    clear c12
    obtain rfl := Option.some.inj H
    go_enter Try.func39, Try.ntmps39
    go_wp2_with (first | (go_at_call 33; (with_reducible refine (swarfref38_way.calls k _ _ l0 _ _ l1 t379 _ ?side1 ?side2 ?side3 ?side4 A10.out).mono ?_); (case side1 => repeat (first | exact HR0.out | (with_reducible refine Kd.C_alloc ?_ _) | (with_reducible refine Kd.C_drewN ?_ _) | (with_reducible refine Kd.C_drew ?_))); (case side2 => exact HC0.out); (case side3 => repeat (first | exact HR1.out | (with_reducible refine Kd.C_alloc ?_ _) | (with_reducible refine Kd.C_drewN ?_ _) | (with_reducible refine Kd.C_drew ?_))); (case side4 => exact HC1.out); rintro e w19 ⟨rfl, hb⟩; have n0_ := Aside0.mk (Kd.V_below (by (with_reducible repeat (first | apply Kd.V_alloc | apply Kd.V_drewN | apply Kd.V_drew)); exact HO2.out) hb); have n1_ := Aside0.mk (below_step (by repeat (first | (with_reducible first | exact HB.out | apply below_alloc | apply pw_below_drewN | apply below_drew1) | exact HB.out)) hb); clear HO2; clear HB; have HO2 := n0_; have HB := n1_; clear n0_ n1_; (try clear hb); (try clear hb2); (try clear hk); (try clear hi)) | (go_at_call 33; (with_reducible refine (swarfref38_way.calls k _ _ l0 _ _ l2 t380 _ ?side1 ?side2 ?side3 ?side4 A11.out).mono ?_); (case side1 => repeat (first | exact (Kd.C_below HR0.out HB.out) | (with_reducible refine Kd.C_alloc ?_ _) | (with_reducible refine Kd.C_drewN ?_ _) | (with_reducible refine Kd.C_drew ?_))); (case side2 => exact HC0.out); (case side3 => repeat (first | exact (Kd.V_reads' HO2.out).2.2 | (with_reducible refine Kd.C_alloc ?_ _) | (with_reducible refine Kd.C_drewN ?_ _) | (with_reducible refine Kd.C_drew ?_))); (case side4 => exact (Kd.V_reads' HO2.out).2.1); rintro e w20 ⟨rfl, hb⟩; have n0_ := Aside0.mk (Kd.V_below (by (with_reducible repeat (first | apply Kd.V_alloc | apply Kd.V_drewN | apply Kd.V_drew)); exact HO2.out) hb); have n1_ := Aside0.mk (below_step (by repeat (first | (with_reducible first | exact HB.out | apply below_alloc | apply pw_below_drewN | apply below_drew1) | exact HB.out)) hb); clear HO2; clear HB; have HO2 := n0_; have HB := n1_; clear n0_ n1_; (try clear hb); (try clear hb2); (try clear hk); (try clear hi)))
    go_ret
    exact ⟨_, by first | rfl | (simp [errW_none, errW_some] <;> rfl) | (simp [*, errW_none, errW_some] <;> rfl), by (with_reducible repeat (first | apply Kd.V_alloc | apply Kd.V_drewN | apply Kd.V_drew)); exact HO2.out, by repeat (first | (with_reducible first | exact HB.out | apply below_alloc | apply pw_below_drewN | apply below_drew1) | exact HB.out)⟩
 ·rw [if_neg c4] at H
  have c4b0 : ((l1.length : Int) == (l0.length : Int)) = false := beq_eq_false_iff_ne.mpr c4
  have c4b1 : ((l1.length : Int) != (l0.length : Int)) = true := bne_iff_ne.mpr c4
  have c4b2 : (l1.length == l0.length) = false := by first | simpa using c4 | (simp at c4 ⊢; omega)
  have H' := Aside0.mk H
  clear H
  go_enter Try.func39, Try.ntmps39
  go_wp2
  go_loopg [2, 7] k (fun kq v2 v7 w' => ∃ (x2_1 : List Int) (x7_1 : Int), v7 = .int .i64 x7_1 ∧ Aside0 (swarfref38_search.l0 kq l0 l1 x2_1 x7_1 = some r) ∧ Aside0 (kq ≤ k) ∧ Aside0 (Kd.V (Kd.int .i64) 3 w' w.heap.size (fun k_ => (P2_ k_ ∨ w.heap.size ≤ k_)) v2 x2_1) ∧ Aside0 (Below w.heap.size w w'))
  case atStart => exact ⟨(l2), (0), (by first | rfl | (simp; done) | (simp [*]; done)), H', ⟨Nat.le_refl _⟩, ⟨by (with_reducible repeat (first | apply Kd.V_alloc | apply Kd.V_drewN | apply Kd.V_drew)); exact HO2.out⟩, ⟨by repeat (first | (with_reducible first | exact HB.out | apply below_alloc | apply pw_below_drewN | apply below_drew1) | exact HB.out)⟩⟩
  case round =>
   clear H'
   try clear c1
   try clear c2
   try clear p2
   try clear c3
   try clear c4
   try clear c4b0
   try clear c4b1
   try clear c4b2
   try clear c5
   try clear c5b0
   try clear c5b1
   try clear c5b2
   try clear c6
   try clear c12
   try clear c12b0
   try clear c13
   obtain ⟨x2_1, x7_1, rfl, HA, HK1, HO_2, HB⟩ := hrel
   cases gk with
   | zero => exact absurd HA.out (by simp [swarfref38_search.l0])
   | succ k1 =>
    have H := HA.out
    clear HA
    simp only [swarfref38_search.l0] at H
    by_cases c21 : x7_1 < (l0.length : Int)
    ·rw [if_pos c21] at H
     have c21b0 : decide (x7_1 < (l0.length : Int)) = true := decide_eq_true c21
     clear c21
     replace H := Option.bind_eq_some_iff.mp H
     obtain ⟨t387, A220, H⟩ := H
     replace H : (if t387 = true then (swarfref38_search.l0 k1 l0 l1 x2_1 (wrap64 (x7_1 + 1))) else ((some (([] : List Int) : List Int)).bind fun y388 => (if y388.length + l1.length < 17592186044416 then ((some (y388 ++ l1 : List Int)).bind fun y391 => (if y391.length < 17592186044416 then ((swarfref38_search.f k1 l0 (y391 ++ [x7_1]) x2_1).bind fun t397 => (swarfref38_search.l0 k1 l0 l1 t397 (wrap64 (x7_1 + 1)))) else (none))) else (none)))) = some r := H
     have A22 := Aside0.mk A220
     clear A220
     by_cases c23 : t387 = true
     ·subst c23
      have H1 : (swarfref38_search.l0 k1 l0 l1 x2_1 (wrap64 (x7_1 + 1))) = some r := by rw [if_pos rfl] at H; exact H
      clear H
      have H := H1
      clear H1
      have H' := Aside0.mk H
      clear H
      go_wp2_with (first | ((with_reducible refine gate_callee (f := 35) rfl ?_); refine goesL_ (some 37) rfl rfl Try.func35 (by kernel_rfl) rfl #[.slice A1 l1.length c1, .int .i64 x7_1] rfl (by (try simp only [List.map_toArray, List.map_cons, List.map_nil]); first | done | rfl | (simp only [List.length_drop, List.length_take]; rfl)) ?_; (with_reducible refine (swarfref38_has.calls k1 _ _ l1 x7_1 true _ ?side1 ?side2 A22.out).mono ?_); (case side1 => repeat (first | exact (Kd.C_below HR1.out HB.out) | (with_reducible refine Kd.C_alloc ?_ _) | (with_reducible refine Kd.C_drewN ?_ _) | (with_reducible refine Kd.C_drew ?_))); (case side2 => exact HC1.out); rintro e w' ⟨rfl, ⟨nd, rfl⟩⟩; refine ⟨_, rfl, ?_⟩))
      go_roundg k1
      case measure => have := HK1.out; omega
      case rel => exact ⟨(x2_1), (wrap64 (x7_1 + 1)), (by first | rfl | (simp; done) | (simp [*]; done)), H', ⟨by have := HK1.out; omega⟩, ⟨by (with_reducible repeat (first | apply Kd.V_alloc | apply Kd.V_drewN | apply Kd.V_drew)); exact HO_2.out⟩, ⟨by repeat (first | (with_reducible first | exact HB.out | apply below_alloc | apply pw_below_drewN | apply below_drew1) | exact HB.out)⟩⟩
     ·replace c23 := Bool.eq_false_iff.mpr c23
      subst c23
      have H1 : ((some (([] : List Int) : List Int)).bind fun y388 => (if y388.length + l1.length < 17592186044416 then ((some (y388 ++ l1 : List Int)).bind fun y391 => (if y391.length < 17592186044416 then ((swarfref38_search.f k1 l0 (y391 ++ [x7_1]) x2_1).bind fun t397 => (swarfref38_search.l0 k1 l0 l1 t397 (wrap64 (x7_1 + 1)))) else (none))) else (none))) = some r := by rw [if_neg (show ¬ (false = true) by decide)] at H; exact H
      clear H
      have H := H1
      clear H1
      obtain ⟨y388, hy388⟩ : ∃ y_ : List Int, y_ = (([] : List Int)) := ⟨_, rfl⟩
      replace H : (if y388.length + l1.length < 17592186044416 then ((some (y388 ++ l1 : List Int)).bind fun y391 => (if y391.length < 17592186044416 then ((swarfref38_search.f k1 l0 (y391 ++ [x7_1]) x2_1).bind fun t397 => (swarfref38_search.l0 k1 l0 l1 t397 (wrap64 (x7_1 + 1)))) else (none))) else (none)) = some r := by first | (rw [hy388]; with_reducible exact H) | (have H2_ := (Option.bind_some _ _).symm.trans H; rw [hy388]; with_reducible exact H2_) | (have H2_ := (Option.bind_some _ _).symm.trans H; with_reducible exact H2_) | with_reducible exact H | (rw [hy388]; exact H) | exact H
      have Ny388 := Aside0.mk hy388
      clear hy388
      by_cases c24 : y388.length + l1.length < 17592186044416
      ·rw [if_pos c24] at H
       have LMc24 := Aside0.mk c24
       clear c24
       obtain ⟨y391, hy391⟩ : ∃ y_ : List Int, y_ = (y388 ++ l1) := ⟨_, rfl⟩
       replace H : (if y391.length < 17592186044416 then ((swarfref38_search.f k1 l0 (y391 ++ [x7_1]) x2_1).bind fun t397 => (swarfref38_search.l0 k1 l0 l1 t397 (wrap64 (x7_1 + 1)))) else (none)) = some r := by first | (rw [hy391]; with_reducible exact H) | (have H2_ := (Option.bind_some _ _).symm.trans H; rw [hy391]; with_reducible exact H2_) | (have H2_ := (Option.bind_some _ _).symm.trans H; with_reducible exact H2_) | with_reducible exact H | (rw [hy391]; exact H) | exact H
       have Ny391 := Aside0.mk hy391
       clear hy391
       by_cases c25 : y391.length < 17592186044416
       ·rw [if_pos c25] at H
        have LMc25 := Aside0.mk c25
        clear c25
        obtain ⟨y394, hy394⟩ : ∃ y_ : List Int, y_ = (y391 ++ [x7_1]) := ⟨_, rfl⟩
        replace H : ((swarfref38_search.f k1 l0 y394 x2_1).bind fun t397 => (swarfref38_search.l0 k1 l0 l1 t397 (wrap64 (x7_1 + 1)))) = some r := by first | (rw [hy394]; with_reducible exact H) | (have H2_ := (Option.bind_some _ _).symm.trans H; rw [hy394]; with_reducible exact H2_) | (have H2_ := (Option.bind_some _ _).symm.trans H; with_reducible exact H2_) | with_reducible exact H | (rw [hy394]; exact H) | exact H
        have Ny394 := Aside0.mk hy394
        clear hy394
        replace H := Option.bind_eq_some_iff.mp H
        obtain ⟨t397, A260, H⟩ := H
        replace H : (swarfref38_search.l0 k1 l0 l1 t397 (wrap64 (x7_1 + 1))) = some r := H
        have A26 := Aside0.mk A260
        clear A260
        have H' := Aside0.mk H
        clear H
        go_wp2_with (first | ((with_reducible refine gate_callee (f := 35) rfl ?_); refine goesL_ (some 37) rfl rfl Try.func35 (by kernel_rfl) rfl #[.slice A1 l1.length c1, .int .i64 x7_1] rfl (by (try simp only [List.map_toArray, List.map_cons, List.map_nil]); first | done | rfl | (simp only [List.length_drop, List.length_take]; rfl)) ?_; (with_reducible refine (swarfref38_has.calls k1 _ _ l1 x7_1 false _ ?side1 ?side2 A22.out).mono ?_); (case side1 => repeat (first | exact (Kd.C_below HR1.out HB.out) | (with_reducible refine Kd.C_alloc ?_ _) | (with_reducible refine Kd.C_drewN ?_ _) | (with_reducible refine Kd.C_drew ?_))); (case side2 => exact HC1.out); rintro e w' ⟨rfl, ⟨nd, rfl⟩⟩; refine ⟨_, rfl, ?_⟩) | ((with_reducible refine gate_dst (N := 40) rfl ?_); refine Kd.R_lit (Kd.int .i64) _ 3 ?hg (N := 40) ?hd (xs := ([] : List Int)) (inner := []) (ok := fun _ => True) (okp := fun _ => True) ?hr ?hp (fun _ hk => hk) trivial (Below.refl _ _) (Nat.le_refl _) (by simp) ?_; (case hd => rfl); (case hg => rfl); (case hr => first | (go_simp; done) | (go_simp; rfl)); (case hp => exact (Reps.none _ _)); intro v389 w27 ho28 hb hg_ hnew_; clear hg_ hnew_; (first | rw [← Ny388.out] at ho28 | (simp only [Int.reduceToNat] at ho28; rw [← Ny388.out] at ho28)); have n0_ := Aside0.mk (Kd.V_elder' (by (with_reducible repeat (first | apply Kd.V_alloc | apply Kd.V_drewN | apply Kd.V_drew)); exact HO_2.out) (Kd.R_base ho28) hb); have n1_ := Aside0.mk (Kd.R_lower (Kd.R_newM (M := fun k_ => (w.heap.size ≤ k_)) ho28 (below_size (by repeat (first | (with_reducible first | exact HB.out | apply below_alloc | apply pw_below_drewN | apply below_drew1) | exact HB.out))) (fun k_ h_ => h_)) (below_size (by repeat (first | (with_reducible first | exact HB.out | apply below_alloc | apply pw_below_drewN | apply below_drew1) | exact HB.out)))); have n2_ := Aside0.mk (below_step (by repeat (first | (with_reducible first | exact HB.out | apply below_alloc | apply pw_below_drewN | apply below_drew1) | exact HB.out)) hb); clear HO_2; clear HB; have HO_2 := n0_; have HO390 := n1_; have HB := n2_; clear n0_ n1_ n2_; clear hb ho28) | ((with_reducible refine gate_builtin (b := .append) (xs := #[.tmp 40, .tmp 41]) rfl ?_); at_builtin; refine Kd.R_append_rows (Kd.int .i64) (w0 := w) w.heap.size rfl (.tmp 40) (.tmp 41) 23 3 (.int .i64 0) 8 rfl Try.underlying23 info3 rfl (by decide) (by omega) v389 y388 l1 _ _ _ (fun k_ => (w.heap.size ≤ k_)) (fun _ => False) rfl rfl ?aO ?aR (fun _ _ h => h) (fun _ h => h.elim) ?aF ?aB ?aS ?aL ?_; (case aR => repeat (first | exact (Kd.C_below HR1.out HB.out) | (with_reducible refine Kd.C_alloc ?_ _) | (with_reducible refine Kd.C_drewN ?_ _) | (with_reducible refine Kd.C_drew ?_))); (case aB => exact (by repeat (first | (with_reducible first | exact HB.out | apply below_alloc | apply pw_below_drewN | apply below_drew1) | exact HB.out))); (case aF => exact (fun k_ hk => (Nat.le_trans (below_size (by repeat (first | (with_reducible first | exact HB.out | apply below_alloc | apply pw_below_drewN | apply below_drew1) | exact HB.out))) hk))); (case aO => exact (by (with_reducible repeat (first | apply Kd.R_alloc | apply Kd.R_drewN | apply Kd.R_drew)); exact Kd.R_mono HO390.out (fun _ hk => hk.1))); (case aS => exact (below_size (by repeat (first | (with_reducible first | exact HB.out | apply below_alloc | apply pw_below_drewN | apply below_drew1) | exact HB.out)))); (case aL => have := LMc24.out; omega); intro v392 w29 ho hb hg hat; rw [← Ny391.out] at ho; have n0_ := Aside0.mk (Kd.V_afterv (ok := (fun k_ => (P2_ k_ ∨ w.heap.size ≤ k_))) (by (with_reducible repeat (first | apply Kd.V_alloc | apply Kd.V_drewN | apply Kd.V_drew)); exact HO_2.out) hg hat); have n1_ := Aside0.mk (hb); have n2_ := Aside0.mk (ho); clear HO_2; clear HB; clear HO390; have HO_2 := n0_; have HB := n1_; have HO393 := n2_; clear n0_ n1_ n2_; clear ho hb hg hat) | ((with_reducible refine gate_builtin (b := .append) (xs := #[.tmp 42, .tmp 44]) rfl ?_); at_builtin; refine Kd.R_append (Kd.int .i64) (w0 := w) w.heap.size rfl (.tmp 42) (.tmp 44) 23 3 (.int .i64 0) 8 rfl Try.underlying23 info3 rfl (by decide) (by omega) v392 y391 x7_1 [.int .i64 x7_1] (fun k_ => (w.heap.size ≤ k_)) (fun _ => False) rfl rfl ?aP (fun _ hk => hk.elim) ?aF ?aO ?aB ?aS ?aL ?_; (case aP => exact rfl); (case aB => exact (by repeat (first | (with_reducible first | exact HB.out | apply below_alloc | apply pw_below_drewN | apply below_drew1) | exact HB.out))); (case aF => exact (fun k_ hk => (Nat.le_trans (below_size (by repeat (first | (with_reducible first | exact HB.out | apply below_alloc | apply pw_below_drewN | apply below_drew1) | exact HB.out))) hk))); (case aO => exact (by (with_reducible repeat (first | apply Kd.R_alloc | apply Kd.R_drewN | apply Kd.R_drew)); exact HO393.out)); (case aS => exact (below_size (by repeat (first | (with_reducible first | exact HB.out | apply below_alloc | apply pw_below_drewN | apply below_drew1) | exact HB.out)))); (case aL => have := LMc25.out; omega); intro v395 w30 ho hb hg hat; rw [← Ny394.out] at ho; have n0_ := Aside0.mk (Kd.V_afterv (ok := (fun k_ => (P2_ k_ ∨ w.heap.size ≤ k_))) (by (with_reducible repeat (first | apply Kd.V_alloc | apply Kd.V_drewN | apply Kd.V_drew)); exact HO_2.out) hg hat); have n1_ := Aside0.mk (hb); have n2_ := Aside0.mk (ho); clear HO_2; clear HB; clear HO393; have HO_2 := n0_; have HB := n1_; have HO396 := n2_; clear n0_ n1_ n2_; clear ho hb hg hat; obtain ⟨Ao31, co31, eo31⟩ := Kd.R_slice HO396.out; subst eo31; obtain ⟨Ao32, co32, eo32⟩ := Kd.V_slice HO_2.out; subst eo32) | ((with_reducible refine gate_callee (f := 39) rfl ?_); refine goesL_ (some 47) rfl rfl Try.func39 (by kernel_rfl) rfl #[.slice A0 l0.length c0, .slice Ao31 y394.length co31, .slice Ao32 x2_1.length co32] rfl (by (try simp only [List.map_toArray, List.map_cons, List.map_nil]); first | done | rfl | (simp only [List.length_drop, List.length_take]; rfl)) ?_; (with_reducible refine (ih k1 (by have := HK1.out; omega) _ _ l0 _ _ y394 (fun k_ => ((P2_ k_ ∨ w.heap.size ≤ k_) ∧ some k_ ≠ (.slice Ao31 y394.length co31 : Value).ownBlock)) _ _ x2_1 t397 _ ?side1 ?side2 ?side3 ?side4 ?side5 A26.out).mono ?_); (case side1 => repeat (first | exact (Kd.C_below HR0.out HB.out) | (with_reducible refine Kd.C_alloc ?_ _) | (with_reducible refine Kd.C_drewN ?_ _) | (with_reducible refine Kd.C_drew ?_))); (case side2 => exact HC0.out); (case side3 => repeat (first | exact (Kd.R_reads' HO396.out).2.2 | (with_reducible refine Kd.C_alloc ?_ _) | (with_reducible refine Kd.C_drewN ?_ _) | (with_reducible refine Kd.C_drew ?_))); (case side4 => exact (Kd.R_reads' HO396.out).2.1); (case side5 => exact HO_2.out); rintro e w33 ⟨v398, rfl, ho0, hb⟩; refine ⟨_, rfl, ?_⟩; have n0_ := Aside0.mk (Kd.V_below (by (with_reducible repeat (first | apply Kd.V_alloc | apply Kd.V_drewN | apply Kd.V_drew)); exact HO_2.out) hb); have n1_ := Aside0.mk (Kd.R_below (by (with_reducible repeat (first | apply Kd.R_alloc | apply Kd.R_drewN | apply Kd.R_drew)); exact HO396.out) hb); have n2_ := Aside0.mk (Kd.V_lower (Kd.V_mono (ok' := fun k_ => (P2_ k_ ∨ w.heap.size ≤ k_) ∧ some k_ ≠ (.slice Ao31 y394.length co31 : Value).ownBlock) ho0 (fun k_ hk_ => ⟨Or.elim hk_ (fun hs_ => hs_.1) (fun hn_ => (.inr (Nat.le_trans (below_size (by repeat (first | (with_reducible first | exact HB.out | apply below_alloc | apply pw_below_drewN | apply below_drew1) | exact HB.out))) hn_))), Or.elim hk_ (fun hs_ => hs_.2) (fun hn_ => (Kd.fresh' (Kd.R_lt (by (with_reducible repeat (first | apply Kd.R_alloc | apply Kd.R_drewN | apply Kd.R_drew)); exact HO396.out)) k_ hn_))⟩)) (below_size (by repeat (first | (with_reducible first | exact HB.out | apply below_alloc | apply pw_below_drewN | apply below_drew1) | exact HB.out)))); have n3_ := Aside0.mk (below_step (by repeat (first | (with_reducible first | exact HB.out | apply below_alloc | apply pw_below_drewN | apply below_drew1) | exact HB.out)) hb); clear HO_2; clear HO396; clear HB; have HO_2 := n0_; have HO396 := n1_; have HO399 := n2_; have HB := n3_; clear n0_ n1_ n2_ n3_; (try clear hb); (try clear hb2); (try clear hk); (try clear hi); (try clear ho0)))
        go_roundg k1
        case measure => have := HK1.out; omega
        case rel => exact ⟨(t397), (wrap64 (x7_1 + 1)), (by first | rfl | (simp; done) | (simp [*]; done)), H', ⟨by have := HK1.out; omega⟩, ⟨by (with_reducible repeat (first | apply Kd.V_alloc | apply Kd.V_drewN | apply Kd.V_drew)); exact Kd.V_mono HO399.out (fun _ hk => hk.1)⟩, ⟨by repeat (first | (with_reducible first | exact HB.out | apply below_alloc | apply pw_below_drewN | apply below_drew1) | exact HB.out)⟩⟩
       ·rw [if_neg c25] at H
        exact absurd H (by simp)
      ·rw [if_neg c24] at H
       exact absurd H (by simp)
    ·rw [if_neg c21] at H
     have c21b0 : decide (x7_1 < (l0.length : Int)) = false := decide_eq_false c21
     clear c21
     obtain rfl := Option.some.inj H
     go_wp2
     go_ret
     exact ⟨_, by first | rfl | (simp [errW_none, errW_some] <;> rfl) | (simp [*, errW_none, errW_some] <;> rfl), by (with_reducible repeat (first | apply Kd.V_alloc | apply Kd.V_drewN | apply Kd.V_drew)); exact HO_2.out, by repeat (first | (with_reducible first | exact HB.out | apply below_alloc | apply pw_below_drewN | apply below_drew1) | exact HB.out)⟩

end Go.Proofs.Ytohjocajaanhaaa.P

-- PRINTED by print.py (a twelfth state) out of the translation. Not trusted: Lean checks it.

namespace Go.Proofs.Ytohjocajaanhaaa.P
open Go.RowKit Go.Proofs.YtohjocajaanhaaaW.PrintWords Go.Proofs.YtohjocajaanhaaaW.PrintLast Go.Proofs.YtohjocajaanhaaaW.PrintMore
attribute [local go_sem] max2_int min2_int max_two min_two max_three min_three max_four min_four   -- for this text's walks alone
set_option linter.unusedVariables false
set_option linter.unusedSimpArgs false

/-! ### swarfref38_Exact: function 23 -/
def swarfref38_Exact.f (k : Nat) (l0 : List (S31)) : Option (List Int × Int × Int) := (swarfref38_Valid.f k l0 10).bind fun t324 => (if t324 = 0 then (if (l0.length : Int) = 0 then (some (([] : List Int), 0, 0)) else ((swarfref38_search.f k l0 (([0] : List Int)) ([] : List Int)).bind fun t328 => ((swarfref38_way.f k l0 t328).bind fun t331 => (some (t328, t331, 0))))) else (some (([] : List Int), 0, t324)))
theorem swarfref38_Exact.mono : ∀ a0 k, LeO (swarfref38_Exact.f k a0) (swarfref38_Exact.f (k + 1) a0) := by
 intro a0 k
 unfold swarfref38_Exact.f
 repeat' first
   | (with_reducible exact swarfref38_Valid.mono _ _ _)
   | (with_reducible exact swarfref38_search.mono _ _ _ _)
   | (with_reducible exact swarfref38_way.mono _ _ _)
   | (with_reducible exact LeO.refl _)
   | (with_reducible exact LeO.none _)
   | (with_reducible refine LeO.ite ?_ ?_)
   | (with_reducible refine LeO.bind ?_ (fun _ => ?_))
   | exact swarfref38_Valid.mono _ _ _
   | exact swarfref38_search.mono _ _ _ _
   | exact swarfref38_way.mono _ _ _
   | exact LeO.none _
   | refine LeO.ite ?_ ?_
   | refine LeO.bind ?_ (fun _ => ?_)
set_option maxHeartbeats 8000000 in
set_option maxRecDepth 100000 in
theorem swarfref38_Exact.calls (k : Nat) (A0 : Option Addr) (c0 : Nat) (l0 : List (S31)) (r1 : List Int) (r2 : Int) (r3 : Int) (w : World) (hr0 : Kd.C k31 w A0 l0.length l0) (hc0 : l0.length ≤ c0) (h : swarfref38_Exact.f k l0 = some (r1, r2, r3)) :
  Calls Try.prog 23 #[.slice A0 l0.length c0] w fun e w' => ∃ v0_ : Value, e = .returned (.tuple #[v0_, .int .i64 r2, .int .i64 r3]) ∧ Kd.V (Kd.int .i64) 3 w' w.heap.size (fun k_ => (w.heap.size ≤ k_)) v0_ r1 ∧ Below w.heap.size w w' := by
 have HR0 := Aside0.mk hr0
 have HC0 := Aside0.mk hc0
 clear hr0 hc0
 have HB := Aside0.mk (Below.refl w.heap.size w)
 have H : ((swarfref38_Valid.f k l0 10).bind fun t324 => (if t324 = 0 then (if (l0.length : Int) = 0 then (some (([] : List Int), 0, 0)) else ((swarfref38_search.f k l0 (([0] : List Int)) ([] : List Int)).bind fun t328 => ((swarfref38_way.f k l0 t328).bind fun t331 => (some (t328, t331, 0))))) else (some (([] : List Int), 0, t324)))) = some (r1, r2, r3) := h
 clear h
 replace H := Option.bind_eq_some_iff.mp H
 obtain ⟨t324, A20, H⟩ := H
 replace H : (if t324 = 0 then (if (l0.length : Int) = 0 then (some (([] : List Int), 0, 0)) else ((swarfref38_search.f k l0 (([0] : List Int)) ([] : List Int)).bind fun t328 => ((swarfref38_way.f k l0 t328).bind fun t331 => (some (t328, t331, 0))))) else (some (([] : List Int), 0, t324))) = some (r1, r2, r3) := H
 have A2 := Aside0.mk A20
 clear A20
 by_cases c3 : t324 = 0
 ·rw [if_pos c3] at H
  have c3b0 : (t324 == 0) = true := beq_iff_eq.mpr c3
  have c3b1 : (t324 != 0) = false := bne_eq_false_iff_eq.mpr c3
  clear c3
  by_cases c4 : (l0.length : Int) = 0
  ·rw [if_pos c4] at H
   have c4b0 : ((l0.length : Int) == 0) = true := beq_iff_eq.mpr c4
   have c4b1 : ((l0.length : Int) != 0) = false := bne_eq_false_iff_eq.mpr c4
   clear c4
   simp only [Option.some.injEq, Prod.mk.injEq] at H
   obtain ⟨rfl, rfl, rfl⟩ := H
   go_enter Try.func23, Try.ntmps23
   go_wp2_with (first | ((with_reducible refine gate_callee (f := 31) rfl ?_); refine goesL_ (some 8) rfl rfl Try.func31 (by kernel_rfl) rfl #[.slice A0 l0.length c0, .int .i64 10] rfl (by (try simp only [List.map_toArray, List.map_cons, List.map_nil]); first | done | rfl | (simp only [List.length_drop, List.length_take]; rfl)) ?_; (with_reducible refine (swarfref38_Valid.calls k _ _ l0 10 t324 _ ?side1 ?side2 A2.out).mono ?_); (case side1 => repeat (first | exact HR0.out | (with_reducible refine Kd.C_alloc ?_ _) | (with_reducible refine Kd.C_drewN ?_ _) | (with_reducible refine Kd.C_drew ?_))); (case side2 => exact HC0.out); rintro e w' ⟨rfl, ⟨nd, rfl⟩⟩; refine ⟨_, rfl, ?_⟩))
   go_ret3
   exact ⟨_, by first | rfl | (simp [errW_none, errW_some] <;> rfl) | (simp [*, errW_none, errW_some] <;> rfl), Kd.R_V (base := w.heap.size) (by first | exact Kd.R_nil _ _ _ _ _ | exact Kd.N_nil _ _ _ _ _ | exact Kd.V_nil _ _ _ _ _ | exact Kd.Q_nil _ _ _ _ _ | exact Kd.S_nil _ _ _ _ _), by repeat (first | (with_reducible first | exact HB.out | apply below_alloc | apply pw_below_drewN | apply below_drew1) | exact HB.out)⟩
  ·rw [if_neg c4] at H
   have c4b0 : ((l0.length : Int) == 0) = false := beq_eq_false_iff_ne.mpr c4
   have c4b1 : ((l0.length : Int) != 0) = true := bne_iff_ne.mpr c4
   have c4b2 : ¬ (l0 = []) := fun h_ => c4 (by rw [h_]; rfl)
   obtain ⟨y325, hy325⟩ : ∃ y_ : List Int, y_ = (([0] : List Int)) := ⟨_, rfl⟩
   replace H : ((swarfref38_search.f k l0 y325 ([] : List Int)).bind fun t328 => ((swarfref38_way.f k l0 t328).bind fun t331 => (some (t328, t331, 0)))) = some (r1, r2, r3) := by first | (rw [hy325]; with_reducible exact H) | (have H2_ := (Option.bind_some _ _).symm.trans H; rw [hy325]; with_reducible exact H2_) | (have H2_ := (Option.bind_some _ _).symm.trans H; with_reducible exact H2_) | with_reducible exact H | (rw [hy325]; exact H) | exact H
   have Ny325 := Aside0.mk hy325
   clear hy325
   replace H := Option.bind_eq_some_iff.mp H
   obtain ⟨t328, A50, H⟩ := H
   replace H : ((swarfref38_way.f k l0 t328).bind fun t331 => (some (t328, t331, 0))) = some (r1, r2, r3) := H
   have A5 := Aside0.mk A50
   clear A50
   replace H := Option.bind_eq_some_iff.mp H
   obtain ⟨t331, A60, H⟩ := H
   replace H : (some (t328, t331, 0)) = some (r1, r2, r3) := H
   have A6 := Aside0.mk A60
   clear A60
   simp only [Option.some.injEq, Prod.mk.injEq] at H
   obtain ⟨rfl, rfl, rfl⟩ := H
   go_enter Try.func23, Try.ntmps23
   go_wp2_with (first | ((with_reducible refine gate_callee (f := 31) rfl ?_); refine goesL_ (some 8) rfl rfl Try.func31 (by kernel_rfl) rfl #[.slice A0 l0.length c0, .int .i64 10] rfl (by (try simp only [List.map_toArray, List.map_cons, List.map_nil]); first | done | rfl | (simp only [List.length_drop, List.length_take]; rfl)) ?_; (with_reducible refine (swarfref38_Valid.calls k _ _ l0 10 t324 _ ?side1 ?side2 A2.out).mono ?_); (case side1 => repeat (first | exact HR0.out | (with_reducible refine Kd.C_alloc ?_ _) | (with_reducible refine Kd.C_drewN ?_ _) | (with_reducible refine Kd.C_drew ?_))); (case side2 => exact HC0.out); rintro e w' ⟨rfl, ⟨nd, rfl⟩⟩; refine ⟨_, rfl, ?_⟩) | ((with_reducible refine gate_dst (N := 16) rfl ?_); refine Kd.R_lit (Kd.int .i64) _ 3 ?hg (N := 16) ?hd (xs := ([0] : List Int)) (inner := [.int .i64 0]) (ok := fun _ => True) (okp := fun _ => True) ?hr ?hp (fun _ hk => hk) trivial (Below.refl _ _) (Nat.le_refl _) (by simp) ?_; (case hd => rfl); (case hg => rfl); (case hr => first | (go_simp; done) | (go_simp; rfl)); (case hp => exact (Reps.one (show Kd.M (Kd.int .i64) _ _ _ 0 [.int .i64 0] from rfl) (Reps.none _ _))); intro v326 w7 ho8 hb hg_ hnew_; clear hg_ hnew_; (first | rw [← Ny325.out] at ho8 | (simp only [Int.reduceToNat] at ho8; rw [← Ny325.out] at ho8)); have n0_ := Aside0.mk (Kd.R_lower (Kd.R_newM (M := fun k_ => (w.heap.size ≤ k_)) ho8 (below_size (by repeat (first | (with_reducible first | exact HB.out | apply below_alloc | apply pw_below_drewN | apply below_drew1) | exact HB.out))) (fun k_ h_ => h_)) (below_size (by repeat (first | (with_reducible first | exact HB.out | apply below_alloc | apply pw_below_drewN | apply below_drew1) | exact HB.out)))); have n1_ := Aside0.mk (below_step (by repeat (first | (with_reducible first | exact HB.out | apply below_alloc | apply pw_below_drewN | apply below_drew1) | exact HB.out)) hb); clear HB; have HO327 := n0_; have HB := n1_; clear n0_ n1_; clear hb ho8; obtain ⟨Ao9, co9, eo9⟩ := Kd.R_slice HO327.out; subst eo9) | ((with_reducible refine gate_callee (f := 39) rfl ?_); refine goesL_ (some 17) rfl rfl Try.func39 (by kernel_rfl) rfl #[.slice A0 l0.length c0, .slice Ao9 y325.length co9, .slice none 0 0] rfl (by (try simp only [List.map_toArray, List.map_cons, List.map_nil]); first | done | rfl | (simp only [List.length_drop, List.length_take]; rfl)) ?_; (refine (swarfref38_search.calls k _ _ l0 _ _ y325 (fun k_ => False) _ _ ([] : List Int) t328 _ ?side1 ?side2 ?side3 ?side4 ?side5 A5.out).mono ?_); (case side1 => repeat (first | exact (Kd.C_below HR0.out HB.out) | (with_reducible refine Kd.C_alloc ?_ _) | (with_reducible refine Kd.C_drewN ?_ _) | (with_reducible refine Kd.C_drew ?_))); (case side2 => exact HC0.out); (case side3 => repeat (first | exact (Kd.R_reads' HO327.out).2.2 | (with_reducible refine Kd.C_alloc ?_ _) | (with_reducible refine Kd.C_drewN ?_ _) | (with_reducible refine Kd.C_drew ?_))); (case side4 => exact (Kd.R_reads' HO327.out).2.1); (case side5 => exact Kd.V_nil _ _ _ _ _); rintro e w10 ⟨v329, rfl, ho0, hb⟩; refine ⟨_, rfl, ?_⟩; have n0_ := Aside0.mk (Kd.R_below (by (with_reducible repeat (first | apply Kd.R_alloc | apply Kd.R_drewN | apply Kd.R_drew)); exact HO327.out) hb); have n1_ := Aside0.mk (Kd.V_lower (Kd.V_mono (ok' := fun k_ => (w.heap.size ≤ k_) ∧ some k_ ≠ (.slice Ao9 y325.length co9 : Value).ownBlock) ho0 (fun k_ hk_ => ⟨Or.elim hk_ (fun hs_ => (hs_).elim) (fun hn_ => (Nat.le_trans (below_size (by repeat (first | (with_reducible first | exact HB.out | apply below_alloc | apply pw_below_drewN | apply below_drew1) | exact HB.out))) hn_)), Or.elim hk_ (fun hs_ => (hs_).elim) (fun hn_ => (Kd.fresh' (Kd.R_lt (by (with_reducible repeat (first | apply Kd.R_alloc | apply Kd.R_drewN | apply Kd.R_drew)); exact HO327.out)) k_ hn_))⟩)) (below_size (by repeat (first | (with_reducible first | exact HB.out | apply below_alloc | apply pw_below_drewN | apply below_drew1) | exact HB.out)))); have n2_ := Aside0.mk (below_step (by repeat (first | (with_reducible first | exact HB.out | apply below_alloc | apply pw_below_drewN | apply below_drew1) | exact HB.out)) hb); clear HO327; clear HB; have HO327 := n0_; have HO330 := n1_; have HB := n2_; clear n0_ n1_ n2_; (try clear hb); (try clear hb2); (try clear hk); (try clear hi); (try clear ho0); obtain ⟨Ao11, co11, eo11⟩ := Kd.V_slice HO330.out; subst eo11) | ((with_reducible refine gate_callee (f := 33) rfl ?_); refine goesL_ (some 21) rfl rfl Try.func33 (by kernel_rfl) rfl #[.slice A0 l0.length c0, .slice Ao11 t328.length co11] rfl (by (try simp only [List.map_toArray, List.map_cons, List.map_nil]); first | done | rfl | (simp only [List.length_drop, List.length_take]; rfl)) ?_; (with_reducible refine (swarfref38_way.calls k _ _ l0 _ _ t328 t331 _ ?side1 ?side2 ?side3 ?side4 A6.out).mono ?_); (case side1 => repeat (first | exact (Kd.C_below HR0.out HB.out) | (with_reducible refine Kd.C_alloc ?_ _) | (with_reducible refine Kd.C_drewN ?_ _) | (with_reducible refine Kd.C_drew ?_))); (case side2 => exact HC0.out); (case side3 => repeat (first | exact (Kd.V_reads' HO330.out).2.2 | (with_reducible refine Kd.C_alloc ?_ _) | (with_reducible refine Kd.C_drewN ?_ _) | (with_reducible refine Kd.C_drew ?_))); (case side4 => exact (Kd.V_reads' HO330.out).2.1); rintro e w12 ⟨rfl, hb⟩; refine ⟨_, rfl, ?_⟩; have n0_ := Aside0.mk (Kd.R_below (by (with_reducible repeat (first | apply Kd.R_alloc | apply Kd.R_drewN | apply Kd.R_drew)); exact HO327.out) hb); have n1_ := Aside0.mk (Kd.V_below (by (with_reducible repeat (first | apply Kd.V_alloc | apply Kd.V_drewN | apply Kd.V_drew)); exact HO330.out) hb); have n2_ := Aside0.mk (below_step (by repeat (first | (with_reducible first | exact HB.out | apply below_alloc | apply pw_below_drewN | apply below_drew1) | exact HB.out)) hb); clear HO327; clear HO330; clear HB; have HO327 := n0_; have HO330 := n1_; have HB := n2_; clear n0_ n1_ n2_; (try clear hb); (try clear hb2); (try clear hk); (try clear hi)))
   go_ret3
   exact ⟨_, by first | rfl | (simp [errW_none, errW_some] <;> rfl) | (simp [*, errW_none, errW_some] <;> rfl), by (with_reducible repeat (first | apply Kd.V_alloc | apply Kd.V_drewN | apply Kd.V_drew)); exact Kd.V_mono HO330.out (fun _ hk => hk.1), by repeat (first | (with_reducible first | exact HB.out | apply below_alloc | apply pw_below_drewN | apply below_drew1) | exact HB.out)⟩
 ·rw [if_neg c3] at H
  have c3b0 : (t324 == 0) = false := beq_eq_false_iff_ne.mpr c3
  have c3b1 : (t324 != 0) = true := bne_iff_ne.mpr c3
  simp only [Option.some.injEq, Prod.mk.injEq] at H
  obtain ⟨rfl, rfl, rfl⟩ := H
  go_enter Try.func23, Try.ntmps23
  go_wp2_with (first | ((with_reducible refine gate_callee (f := 31) rfl ?_); refine goesL_ (some 8) rfl rfl Try.func31 (by kernel_rfl) rfl #[.slice A0 l0.length c0, .int .i64 10] rfl (by (try simp only [List.map_toArray, List.map_cons, List.map_nil]); first | done | rfl | (simp only [List.length_drop, List.length_take]; rfl)) ?_; (with_reducible refine (swarfref38_Valid.calls k _ _ l0 10 t324 _ ?side1 ?side2 A2.out).mono ?_); (case side1 => repeat (first | exact HR0.out | (with_reducible refine Kd.C_alloc ?_ _) | (with_reducible refine Kd.C_drewN ?_ _) | (with_reducible refine Kd.C_drew ?_))); (case side2 => exact HC0.out); rintro e w' ⟨rfl, ⟨nd, rfl⟩⟩; refine ⟨_, rfl, ?_⟩))
  go_ret3
  exact ⟨_, by first | rfl | (simp [errW_none, errW_some] <;> rfl) | (simp [*, errW_none, errW_some] <;> rfl), Kd.R_V (base := w.heap.size) (by first | exact Kd.R_nil _ _ _ _ _ | exact Kd.N_nil _ _ _ _ _ | exact Kd.V_nil _ _ _ _ _ | exact Kd.Q_nil _ _ _ _ _ | exact Kd.S_nil _ _ _ _ _), by repeat (first | (with_reducible first | exact HB.out | apply below_alloc | apply pw_below_drewN | apply below_drew1) | exact HB.out)⟩

end Go.Proofs.Ytohjocajaanhaaa.P

/- What Exact answers, in the program and in the reference: the first shortest order. Plain numbers and lists. -/

namespace Go.Proofs.Ytohjocajaanhaaa.B
open Go.RowKit Go.Proofs.Ytohjocajaanhaaa.P Go.Proofs.YtohjocajaanhaaaW.PrintWords Go.Proofs.YtohjocajaanhaaaW.PrintLast Go.Proofs.YtohjocajaanhaaaW.PrintMore
set_option linter.unusedVariables false
set_option linter.unusedSimpArgs false

/-- q goes on with o to an order of all. -/
def Compl (l : List S31) (o q : List Int) : Prop := (∃ t, q = o ++ t) ∧ q.length = l.length ∧ q.Nodup ∧ ∀ x ∈ q, 0 ≤ x ∧ x < (l.length : Int)
theorem Compl.less {l : List S31} {o q : List Int} {i : Int} (h : Compl l (o ++ [i]) q) : Compl l o q := by
  obtain ⟨⟨t, ht⟩, h2⟩ := h
  exact ⟨⟨i :: t, by rw [ht]; simp⟩, h2⟩
theorem range_drop (n j : Nat) (h : j < n) : (List.range n).drop j = j :: (List.range n).drop (j + 1) := by
  rw [List.drop_eq_getElem_cons (by simpa using h)]
  simp
/-! ### The reference -/
/-! ### The program -/
theorem same_l0 (o : List Int) (hl : o.length ≤ 1000) (d : Nat) : ∀ j : Nat, j + d = o.length → Ev (fun k => swarfref38_Same.l0 k o o (j : Int)) true := by
  induction d with
  | zero =>
    intro j hj
    exact ev_end (fun k => by simp only [swarfref38_Same.l0]; rw [if_neg (by omega)])
  | succ d ih =>
    intro j hj
    have hw : wrap64 ((j : Int) + 1) = ((j + 1 : Nat) : Int) := by rw [wrap_mid _ (by omega) (by omega)]; omega
    refine Ev.step (fun k => ?_) (ih (j + 1) (by omega))
    simp only [swarfref38_Same.l0]
    rw [if_pos (by omega), if_pos (by omega), if_pos (by omega), hw]
    rfl
theorem same_ev (o : List Int) (hl : o.length ≤ 1000) : Ev (fun k => swarfref38_Same.f k o o) true := by
  unfold swarfref38_Same.f
  simp only [if_true]
  exact same_l0 o hl o.length 0 (by omega)
end Go.Proofs.Ytohjocajaanhaaa.B

/- No order is shorter than a weighed tree: the bound holds. Plain numbers and lists. -/

namespace Go.Proofs.Ytohjocajaanhaaa.B
open Go.RowKit Go.Proofs.Ytohjocajaanhaaa.P Go.Proofs.YtohjocajaanhaaaW.PrintWords Go.Proofs.YtohjocajaanhaaaW.PrintLast Go.Proofs.YtohjocajaanhaaaW.PrintMore Go.Proofs.Ytohjocajaanhaaa.Mst
set_option linter.unusedVariables false
set_option linter.unusedSimpArgs false

/-- The pairs of neighbours of an order. -/
def edges : List Int → List (Nat × Nat)
  | [] => []
  | [_] => []
  | a :: b :: t => (a.toNat, b.toNat) :: edges (b :: t)
theorem edges_len : ∀ (a : Int) (t : List Int), (edges (a :: t)).length = t.length
  | _, [] => rfl
  | _, b :: t => by simp only [edges, List.length_cons]; rw [edges_len b t]
def sumq (w : List Int) : List Int → Int
  | [] => 0
  | x :: xs => rd w x + sumq w xs
def lastOf : Int → List Int → Int
  | a, [] => a
  | _, b :: t => lastOf b t
theorem wt_edges (l : List S31) (w : List Int) : ∀ (t : List Int) (a : Int), (∀ x ∈ a :: t, 0 ≤ x) → wt (cst l w) (edges (a :: t)) = wy l (a :: t) + 2 * sumq w (a :: t) - rd w a - rd w (lastOf a t)
  | [], a, _ => by simp only [edges, wt, wy, sumq, lastOf]; omega
  | b :: t, a, h => by
    have ih := wt_edges l w t b (fun x hx => h x (List.mem_cons_of_mem _ hx))
    have ha := h a List.mem_cons_self
    have hb := h b (List.mem_cons_of_mem _ List.mem_cons_self)
    have ea : ((a.toNat : Nat) : Int) = a := by omega
    have eb : ((b.toNat : Nat) : Int) = b := by omega
    simp only [edges, wt, wy, lastOf]
    rw [ih]
    unfold cst
    rw [ea, eb]
    simp only [sumq]
    omega
theorem grow_edges (n : Nat) : ∀ (t p : List Int) (a : Int), (p ++ a :: t).Nodup → (∀ x ∈ p ++ a :: t, 0 ≤ x ∧ x < (n : Int)) → (∀ i : Nat, i < n → (i : Int) ∈ p ++ a :: t) → Grow n (insS (p ++ [a])) (edges (a :: t))
  | [], p, a, _, _, hall => Grow.nil (fun x hx => hall x hx)
  | b :: t, p, a, hd, hr, hall => by
    have e : p ++ a :: b :: t = (p ++ [a]) ++ b :: t := by simp
    have ih := grow_edges n t (p ++ [a]) b (by rw [← e]; exact hd) (by rw [← e]; exact hr) (by rw [← e]; exact hall)
    have ha := hr a (by simp)
    have hb := hr b (by simp)
    have ea : ((a.toNat : Nat) : Int) = a := by omega
    have eb : ((b.toNat : Nat) : Int) = b := by omega
    have hset : insS (p ++ [a] ++ [b]) = (fun x : Nat => insS (p ++ [a]) x ∨ x = b.toNat) := by
      funext x
      unfold insS
      rw [List.mem_append (s := p ++ [a]), List.mem_singleton]
      exact propext ⟨fun h => h.imp_right (fun h => by omega), fun h => h.imp_right (fun h => by omega)⟩
    rw [hset] at ih
    refine Grow.cons ?_ (by omega) ?_ (by omega) ih
    · unfold insS; rw [ea]; simp
    · unfold insS
      rw [eb]
      intro hm
      rw [e, List.nodup_append] at hd
      exact hd.2.2 b hm b List.mem_cons_self rfl
theorem sumq_perm (w : List Int) {p q : List Int} (h : p.Perm q) : sumq w p = sumq w q := by
  induction h with
  | nil => rfl
  | cons x _ ih => simp only [sumq, ih]
  | swap x y l => simp only [sumq]; omega
  | trans _ _ ih1 ih2 => exact ih1.trans ih2
theorem sumq_range (w : List Int) (d : Nat) : ∀ j : Nat, j + d = w.length → sumq w (((List.range w.length).drop j).map (fun i : Nat => (i : Int))) = sumI (w.drop j) := by
  induction d with
  | zero =>
    intro j hj
    rw [List.drop_eq_nil_of_le (by simp; omega), List.drop_eq_nil_of_le (by omega)]
    rfl
  | succ d ih =>
    intro j hj
    rw [range_drop _ _ (by omega), drop_rd w j (by omega)]
    simp only [List.map_cons, sumq, sumI]
    rw [ih (j + 1) (by omega)]
theorem compl_perm {l : List S31} {o q : List Int} (h : Compl l o q) : q.Perm ((List.range l.length).map (fun i : Nat => (i : Int))) := by
  obtain ⟨_, h2, h3, h4⟩ := h
  refine (List.perm_ext_iff_of_nodup h3 (List.Pairwise.map _ (fun a b (hab : a ≠ b) => by omega) List.nodup_range)).2 (fun a => ⟨fun ha => ?_, fun ha => ?_⟩)
  · have := h4 a ha
    exact List.mem_map.2 ⟨a.toNat, List.mem_range.2 (by omega), by omega⟩
  · obtain ⟨i, hi, rfl⟩ := List.mem_map.1 ha
    exact full_in h3 h4 h2 i (List.mem_range.1 hi)
/-- A run's sum is at most an order's length with its weights. -/
theorem run_le_order {l : List S31} {w : List Int} (hg : Good l w) {t : Int} (h : Run (cst l w) l.length (fun x => (x : Int) ∈ [(0 : Int)]) (l.length - 1) t) {q : List Int} (hq : Compl l [0] q) :
    ∃ r, q = 0 :: r ∧ t ≤ wy l q + 2 * sumI w - rd w 0 - rd w (lastOf 0 r) := by
  have hp := compl_perm hq
  obtain ⟨⟨r, hr⟩, h2, h3, h4⟩ := hq
  have hr' : q = 0 :: r := hr
  subst hr'
  refine ⟨r, rfl, ?_⟩
  have hgr := grow_edges l.length r [] 0 h3 h4 (fun i hi => full_in h3 h4 h2 i hi)
  have hle := h.le (cst_sym l w) (E := edges (0 :: r)) hgr (by rw [edges_len]; simp only [List.length_cons] at h2; omega)
  rw [wt_edges l w r 0 (fun x hx => (h4 x hx).1), sumq_perm w hp] at hle
  have := sumq_range w w.length 0 (by omega)
  rw [List.drop_zero, List.drop_zero, hg.wl] at this
  rw [this] at hle
  exact hle
/-! ### Weights 0 -/
theorem rd_zeros (n : Nat) (i : Int) : rd (List.replicate n 0) i = 0 := by
  unfold rd
  rw [List.getD_eq_getElem?_getD, List.getElem?_replicate]
  split <;> rfl
theorem good_zeros {l : List S31} (hv : l.all okp = true) (h0 : 1 ≤ l.length) (h1 : l.length ≤ 200) : Good l (List.replicate l.length 0) :=
  ⟨hv, h0, h1, by simp, fun x hx => by have := List.eq_of_mem_replicate hx; omega⟩
theorem sumI_zeros (n : Nat) : sumI (List.replicate n 0) = 0 := by
  induction n with
  | zero => rfl
  | succ n ih => rw [List.replicate_succ]; simp only [sumI, ih]; rfl
theorem Tree_ev {l : List S31} (hv : l.all okp = true) (h0 : 1 ≤ l.length) (h1 : l.length ≤ 200) : ∃ t, Ev (fun k => tour_Tree.f k l) t ∧ Ev (fun k => swarfref38_Tree.f k l) t ∧ Run (cst l (List.replicate l.length 0)) l.length (fun x => (x : Int) ∈ [(0 : Int)]) (l.length - 1) t := by
  obtain ⟨t, p, e1, e2, e3⟩ := trees (good_zeros hv h0 h1)
  have hlen : ((l.length : Int)).toNat = l.length := by omega
  refine ⟨t, ?_, ?_, e3⟩
  · unfold tour_Tree.f
    simp only [if_pos (show 0 ≤ (l.length : Int) by omega), hlen, if_pos (show l.length ≤ 35184372088832 by omega)]
    exact Ev.bind e1 (Ev.now _)
  · unfold swarfref38_Tree.f
    simp only [if_pos (show 0 ≤ (l.length : Int) by omega), hlen, if_pos (show l.length ≤ 35184372088832 by omega)]
    exact Ev.bind e2 (Ev.now _)
/-- A run's sum is at most an order's length. -/
theorem tree_le {l : List S31} (hv : l.all okp = true) (h0 : 1 ≤ l.length) (h1 : l.length ≤ 200) {t : Int} (h : Run (cst l (List.replicate l.length 0)) l.length (fun x => (x : Int) ∈ [(0 : Int)]) (l.length - 1) t) {q : List Int} (hq : Compl l [0] q) : t ≤ wy l q := by
  obtain ⟨r, _, hle⟩ := run_le_order (good_zeros hv h0 h1) h hq
  rw [sumI_zeros, rd_zeros, rd_zeros] at hle
  omega
end Go.Proofs.Ytohjocajaanhaaa.B

/- What Nearest answers, in the program and in the reference. Plain numbers and lists. -/

namespace Go.Proofs.Ytohjocajaanhaaa.B
open Go.RowKit Go.Proofs.Ytohjocajaanhaaa.P Go.Proofs.YtohjocajaanhaaaW.PrintWords Go.Proofs.YtohjocajaanhaaaW.PrintLast Go.Proofs.YtohjocajaanhaaaW.PrintMore
set_option linter.unusedVariables false
set_option linter.unusedSimpArgs false

/-- One look at a number, when the nearest one is sought. -/
def look (l : List S31) (out : List Int) (at_ : Int) (j : Nat) (b : Int) : Int := if (j : Int) ∈ out then b else if b < 0 then (j : Int) else if dst (rd_T31 l at_) (rd_T31 l (j : Int)) < dst (rd_T31 l at_) (rd_T31 l b) then (j : Int) else b
def nxF (l : List S31) (out : List Int) (at_ : Int) : Nat → Nat → Int → Int
  | 0, _, b => b
  | d + 1, j, b => nxF l out at_ d (j + 1) (look l out at_ j b)
theorem look_spec (l : List S31) (out : List Int) (at_ : Int) (j : Nat) (hj : j < l.length) (b : Int) (hb : b = -1 ∨ (0 ≤ b ∧ b < (l.length : Int) ∧ ¬ b ∈ out)) : (look l out at_ j b = -1 ∧ b = -1 ∧ (j : Int) ∈ out) ∨ (0 ≤ look l out at_ j b ∧ look l out at_ j b < (l.length : Int) ∧ ¬ look l out at_ j b ∈ out) := by
  unfold look
  by_cases h : (j : Int) ∈ out
  · rw [if_pos h]
    rcases hb with hb | hb
    · exact .inl ⟨hb, hb, h⟩
    · exact .inr hb
  · rw [if_neg h]
    by_cases h1 : b < 0
    · rw [if_pos h1]; exact .inr ⟨by omega, by omega, h⟩
    · rw [if_neg h1]
      split
      · exact .inr ⟨by omega, by omega, h⟩
      · exact .inr (hb.resolve_left (by omega))
theorem nx_spec (l : List S31) (out : List Int) (at_ : Int) (d : Nat) : ∀ (j : Nat) (b : Int), j + d = l.length → (b = -1 ∨ (0 ≤ b ∧ b < (l.length : Int) ∧ ¬ b ∈ out)) →
    (nxF l out at_ d j b = -1 ∧ b = -1 ∧ ∀ i : Nat, j ≤ i → i < l.length → (i : Int) ∈ out) ∨ (0 ≤ nxF l out at_ d j b ∧ nxF l out at_ d j b < (l.length : Int) ∧ ¬ nxF l out at_ d j b ∈ out) := by
  induction d with
  | zero =>
    intro j b hj hb
    unfold nxF
    rcases hb with hb | hb
    · exact .inl ⟨hb, hb, fun i h1 h2 => by omega⟩
    · exact .inr hb
  | succ d ih =>
    intro j b hj hb
    unfold nxF
    have hl := look_spec l out at_ j (by omega) b hb
    rcases ih (j + 1) (look l out at_ j b) (by omega) (by rcases hl with h | h; exact .inl h.1; exact .inr h) with ⟨h1, h2, h3⟩ | h
    · rcases hl with ⟨g1, g2, g3⟩ | g
      · refine .inl ⟨h1, g2, fun i hi hil => ?_⟩
        by_cases he : i = j
        · rw [he]; exact g3
        · exact h3 i (by omega) hil
      · omega
    · exact .inr h
/-- The next number of an order. -/
def pick (l : List S31) (out : List Int) : Int := if out = [] then 0 else nxF l out (rd out ((out.length : Int) - 1)) l.length 0 (-1)
def near (l : List S31) : Nat → List Int → List Int
  | 0, out => out
  | d + 1, out => near l d (out ++ [pick l out])
theorem pick_spec {l : List S31} {out : List Int} (hl : out.length < l.length) : 0 ≤ pick l out ∧ pick l out < (l.length : Int) ∧ ¬ pick l out ∈ out := by
  unfold pick
  by_cases h : out = []
  · rw [if_pos h, h]; exact ⟨by omega, by omega, by simp⟩
  · rw [if_neg h]
    rcases nx_spec l out (rd out ((out.length : Int) - 1)) l.length 0 (-1) (by omega) (.inl rfl) with ⟨h1, h2, h3⟩ | h
    · obtain ⟨x, hx, hn⟩ := some_out hl
      exact absurd (h3 x (by omega) hx) hn
    · exact h
theorem nodup_snoc {o : List Int} {x : Int} (hd : o.Nodup) (hx : ¬ x ∈ o) : (o ++ [x]).Nodup := by
  rw [List.nodup_append]
  refine ⟨hd, by simp, fun a ha b hb => ?_⟩
  rw [List.mem_singleton] at hb
  rintro rfl
  exact hx (hb ▸ ha)
theorem near_compl (l : List S31) (d : Nat) : ∀ out : List Int, out.length + d = l.length → out.Nodup → (∀ x ∈ out, 0 ≤ x ∧ x < (l.length : Int)) → Compl l out (near l d out) := by
  induction d with
  | zero => intro out hl hd hr; exact ⟨⟨[], by simp [near]⟩, hl, hd, hr⟩
  | succ d ih =>
    intro out hl hd hr
    have hp := pick_spec (l := l) (out := out) (by omega)
    unfold near
    exact (ih (out ++ [pick l out]) (by simp; omega) (nodup_snoc hd hp.2.2) (fun x hx => by
      rcases List.mem_append.1 hx with hx | hx
      · exact hr x hx
      · rw [List.mem_singleton] at hx; omega)).less
theorem rd_snoc (o : List Int) (x : Int) : rd (o ++ [x]) (((o ++ [x]).length : Int) - 1) = x := by
  unfold rd
  have : (((o ++ [x]).length : Int) - 1).toNat = o.length := by simp
  rw [this]
  simp
/-! ### The program -/
theorem tnear_l1 {l : List S31} (hv : l.all okp = true) (hn : l.length ≤ 200) (out : List Int) (done : List Bool) (hdl : done.length = l.length) (hm : ∀ b : Nat, b < l.length → (rdOf false done (b : Int) = true ↔ (b : Int) ∈ out)) (at_ : Int) (ha0 : 0 ≤ at_) (ha1 : at_ < (l.length : Int)) (r : List Int) (d : Nat) :
    ∀ (j : Nat) (b : Int), j + d = l.length → (b = -1 ∨ (0 ≤ b ∧ b < (l.length : Int) ∧ ¬ b ∈ out)) → Ev (fun k => tour_Nearest.l0 k l out done (nxF l out at_ d j b)) r → Ev (fun k => tour_Nearest.l1 k l out done at_ b l (l.length : Int) (j : Int)) r := by
  induction d with
  | zero =>
    intro j b hj hb hr
    refine Ev.step (fun k => ?_) hr
    simp only [tour_Nearest.l1]
    rw [if_neg (by omega)]
    rfl
  | succ d ih =>
    intro j b hj hb hr
    have hw : wrap64 ((j : Int) + 1) = ((j + 1 : Nat) : Int) := by rw [wrap_mid _ (by omega) (by omega)]; omega
    have hl := look_spec l out at_ j (by omega) b hb
    refine Ev.step (fun k => ?_) (ih (j + 1) (look l out at_ j b) (by omega) (by rcases hl with h | h; exact .inl h.1; exact .inr h) hr)
    have ka := ok_at hv at_ ha0 ha1
    have kj := ok_at hv (j : Int) (by omega) (by omega)
    simp only [tour_Nearest.l1]
    rw [if_pos (by omega), if_pos (by omega), if_pos (by omega), if_pos (by omega), hw]
    unfold look
    by_cases hin : (j : Int) ∈ out
    · rw [if_pos ((hm j (by omega)).2 hin), if_pos hin]
    · rw [if_neg (fun h => hin ((hm j (by omega)).1 h)), if_neg hin]
      by_cases hneg : b < 0
      · rw [if_pos hneg, if_pos hneg]
      · have hbb := hb.resolve_left (by omega)
        have kb := ok_at hv b hbb.1 hbb.2.1
        rw [if_neg hneg, if_neg hneg, if_pos ha0, if_pos ha1, dist_eq ka kj]
        simp only [Option.bind_some]
        rw [if_pos hbb.1, if_pos hbb.2.1, dist_eq ka kb]
        simp only [Option.bind_some]
        split <;> rfl
theorem tnear_l0 {l : List S31} (hv : l.all okp = true) (hn : l.length ≤ 200) (d : Nat) : ∀ (out : List Int) (done : List Bool) (at_ : Int), out.length + d = l.length → out.Nodup → (∀ x ∈ out, 0 ≤ x ∧ x < (l.length : Int)) → done.length = l.length → (∀ b : Nat, b < l.length → (rdOf false done (b : Int) = true ↔ (b : Int) ∈ out)) →
    (d = 0 → at_ = -1 ∨ (l.length : Int) ≤ at_) → (¬ d = 0 → at_ = pick l out) → Ev (fun k => tour_Nearest.l0 k l out done at_) (near l d out) := by
  induction d with
  | zero =>
    intro out done at_ hl hd hr hdl hm h0 _
    rcases h0 rfl with h | h
    · refine Ev.step (f := fun k => tour_Nearest.j1 k l out done at_ false) (fun k => ?_) (ev_end (fun k => ?_))
      · simp only [tour_Nearest.l0]; rw [if_neg (by omega)]
      · simp only [tour_Nearest.j1]; rw [if_neg (by decide)]; rfl
    · refine Ev.step (f := fun k => tour_Nearest.j1 k l out done at_ false) (fun k => ?_) (ev_end (fun k => ?_))
      · simp only [tour_Nearest.l0]; rw [if_pos (by omega), decide_eq_false (by omega)]
      · simp only [tour_Nearest.j1]; rw [if_neg (by decide)]; rfl
  | succ d ih =>
    intro out done at_ hl hd hr hdl hm _ h1
    have hp := pick_spec (l := l) (out := out) (by omega)
    rw [← h1 (by omega)] at hp
    have hm' : ∀ b : Nat, b < l.length → (rdOf false (done.set at_.toNat true) (b : Int) = true ↔ (b : Int) ∈ out ++ [at_]) := fun b hb => by
      rw [rdOf_set done at_ (b : Int) hp.1 (by omega) (by omega), List.mem_append, List.mem_singleton]
      by_cases he : at_ = (b : Int)
      · rw [if_pos he]; exact ⟨fun _ => .inr he.symm, fun _ => rfl⟩
      · rw [if_neg he, hm b hb]
        exact ⟨fun h => .inl h, fun h => h.resolve_right (fun h => he h.symm)⟩
    have hd' := nodup_snoc hd hp.2.2
    have hr' : ∀ x ∈ out ++ [at_], 0 ≤ x ∧ x < (l.length : Int) := fun x hx => by
      rcases List.mem_append.1 hx with hx | hx
      · exact hr x hx
      · rw [List.mem_singleton] at hx; omega
    have hpick : pick l (out ++ [at_]) = nxF l (out ++ [at_]) at_ l.length 0 (-1) := by
      unfold pick
      rw [if_neg (by simp), rd_snoc]
    refine Ev.step (f := fun k => tour_Nearest.j1 k l out done at_ true) (fun k => ?_) (Ev.step (f := fun k => tour_Nearest.l1 k l (out ++ [at_]) (done.set at_.toNat true) at_ (-1) l (l.length : Int) ((0 : Nat) : Int)) (fun k => ?_) ?_)
    · simp only [tour_Nearest.l0]; rw [if_pos (by omega), decide_eq_true hp.2.1]
    · simp only [tour_Nearest.j1]; rw [if_pos trivial, if_pos (by omega), if_pos hp.1, if_pos (by omega)]; rfl
    · refine tnear_l1 hv hn (out ++ [at_]) (done.set at_.toNat true) (by simp [hdl]) hm' at_ hp.1 hp.2.1 _ l.length 0 (-1) (by omega) (.inl rfl) ?_
      unfold near
      rw [← h1 (by omega)]
      refine ih (out ++ [at_]) (done.set at_.toNat true) _ (by simp; omega) hd' hr' (by simp [hdl]) hm' (fun h0 => .inl ?_) (fun h0 => hpick.symm)
      rcases nx_spec l (out ++ [at_]) at_ l.length 0 (-1) (by omega) (.inl rfl) with ⟨g, _⟩ | ⟨g1, g2, g3⟩
      · exact g
      · have := full_in hd' hr' (by simp; omega) (nxF l (out ++ [at_]) at_ l.length 0 (-1)).toNat (by omega)
        have e : (((nxF l (out ++ [at_]) at_ l.length 0 (-1)).toNat : Nat) : Int) = nxF l (out ++ [at_]) at_ l.length 0 (-1) := by omega
        rw [e] at this
        exact absurd this g3
theorem tNearest_ev {l : List S31} (hv : l.all okp = true) (hn : l.length ≤ 200) : Ev (fun k => tour_Nearest.f k l) (near l l.length []) := by
  unfold tour_Nearest.f
  have hlen : ((l.length : Int)).toNat = l.length := by omega
  simp only [if_pos (show 0 ≤ (l.length : Int) by omega), hlen, if_pos (show l.length ≤ 281474976710656 by omega)]
  refine tnear_l0 hv hn l.length [] (List.replicate l.length false) 0 (by simp) (by simp) (fun x hx => by cases hx) (by simp) (fun b hb => ?_) (fun h => .inr (by omega)) (fun h => by unfold pick; rw [if_pos rfl])
  have : rdOf false (List.replicate l.length false) (b : Int) = false := by unfold rdOf; simp [List.getD, hb]
  rw [this]
  exact ⟨fun h => (by cases h), fun h => (by cases h)⟩
/-! ### The reference -/
theorem rnear_l1 {l : List S31} (hv : l.all okp = true) (hn : l.length ≤ 200) (out : List Int) (hol : out.length ≤ 200) (hr : ∀ x ∈ out, 0 ≤ x ∧ x < (l.length : Int)) (ho : ¬ out = []) (r : List Int) (d : Nat) :
    ∀ (j : Nat) (b : Int), j + d = l.length → (b = -1 ∨ (0 ≤ b ∧ b < (l.length : Int) ∧ ¬ b ∈ out)) → Ev (fun k => swarfref38_Nearest.l0 k l (out ++ [nxF l out (rd out ((out.length : Int) - 1)) d j b])) r → Ev (fun k => swarfref38_Nearest.l1 k l out b (j : Int)) r := by
  have h1 : 1 ≤ out.length := List.length_pos_iff.2 ho
  have hwl : wrap64 ((out.length : Int) - 1) = (out.length : Int) - 1 := wrap_mid _ (by omega) (by omega)
  induction d with
  | zero =>
    intro j b hj hb hrr
    refine Ev.step (fun k => ?_) hrr
    simp only [swarfref38_Nearest.l1]
    rw [if_neg (by omega), if_pos (by omega)]
    rfl
  | succ d ih =>
    intro j b hj hb hrr
    have hw : wrap64 ((j : Int) + 1) = ((j + 1 : Nat) : Int) := by rw [wrap_mid _ (by omega) (by omega)]; omega
    have hl := look_spec l out (rd out ((out.length : Int) - 1)) j (by omega) b hb
    have hla := hr _ (rd_mem (o := out) (i := (out.length : Int) - 1) (by omega) (by omega))
    have kl := ok_at hv _ hla.1 hla.2
    have kj := ok_at hv (j : Int) (by omega) (by omega)
    have hi := ih (j + 1) (look l out (rd out ((out.length : Int) - 1)) j b) (by omega) (by rcases hl with h | h; exact .inl h.1; exact .inr h) hrr
    refine Ev.step (f := fun k => (swarfref38_has.f k out (j : Int)).bind fun t => if t = true then swarfref38_Nearest.j2 k l out b (j : Int) true else swarfref38_Nearest.j2 k l out b (j : Int) false) (fun k => ?_) (Ev.bind (has_ev out (by omega) (j : Int)) ?_)
    · simp only [swarfref38_Nearest.l1]
      rw [if_pos (by omega), if_neg (by omega)]
    · unfold look at hi
      by_cases hin : (j : Int) ∈ out
      · rw [if_pos hin] at hi
        simp only [decide_eq_true hin, if_true]
        refine Ev.step (fun k => ?_) hi
        simp only [swarfref38_Nearest.j2]; rw [if_pos trivial, hw]
      · rw [if_neg hin] at hi
        simp only [decide_eq_false hin, Bool.false_eq_true, if_false]
        refine Ev.step (fun k => ?_) hi
        simp only [swarfref38_Nearest.j2]
        rw [if_neg (by decide), hw]
        by_cases hneg : b < 0
        · rw [if_pos hneg, if_pos hneg]
        · have hbb := hb.resolve_left (by omega)
          have kb := ok_at hv b hbb.1 hbb.2.1
          rw [if_neg hneg, if_neg hneg, hwl, if_pos (by omega), if_pos (by omega), if_pos hla.1, if_pos hla.2, if_pos (by omega), if_pos (by omega), ref_dist_eq kl kj]
          simp only [Option.bind_some]
          rw [if_pos hbb.1, if_pos hbb.2.1, ref_dist_eq kl kb]
          simp only [Option.bind_some]
          split <;> rfl
theorem rnear_first (l : List S31) (hn : l.length ≤ 200) (r : List Int) (hr : Ev (fun k => swarfref38_Nearest.l0 k l [0]) r) (d : Nat) : ∀ j : Nat, 1 ≤ j → j + d = l.length → Ev (fun k => swarfref38_Nearest.l1 k l [] 0 (j : Int)) r := by
  induction d with
  | zero =>
    intro j h1 hj
    refine Ev.step (fun k => ?_) hr
    simp only [swarfref38_Nearest.l1]
    rw [if_neg (by omega), if_pos (by simp)]
    rfl
  | succ d ih =>
    intro j h1 hj
    have hw : wrap64 ((j : Int) + 1) = ((j + 1 : Nat) : Int) := by rw [wrap_mid _ (by omega) (by omega)]; omega
    refine Ev.step (f := fun k => (swarfref38_has.f k [] (j : Int)).bind fun t => if t = true then swarfref38_Nearest.j2 k l [] 0 (j : Int) true else swarfref38_Nearest.j2 k l [] 0 (j : Int) true) (fun k => ?_) (Ev.bind (has_ev [] (by simp) (j : Int)) ?_)
    · simp only [swarfref38_Nearest.l1]
      rw [if_pos (by omega), if_pos (by rfl), decide_eq_true (by omega)]
    · simp only [decide_eq_false (show ¬ (j : Int) ∈ ([] : List Int) by simp), Bool.false_eq_true, if_false]
      refine Ev.step (fun k => ?_) (ih (j + 1) (by omega) (by omega))
      simp only [swarfref38_Nearest.j2]; rw [if_pos trivial, hw]
theorem rnear_l0 {l : List S31} (hv : l.all okp = true) (hn : l.length ≤ 200) (d : Nat) : ∀ (out : List Int), out.length + d = l.length → out.Nodup → (∀ x ∈ out, 0 ≤ x ∧ x < (l.length : Int)) → Ev (fun k => swarfref38_Nearest.l0 k l out) (near l d out) := by
  induction d with
  | zero =>
    intro out hl hd hr
    refine ev_end (fun k => ?_)
    simp only [swarfref38_Nearest.l0]; rw [if_neg (by omega)]; rfl
  | succ d ih =>
    intro out hl hd hr
    have hp := pick_spec (l := l) (out := out) (by omega)
    have hi := ih (out ++ [pick l out]) (by simp; omega) (nodup_snoc hd hp.2.2) (fun x hx => by
      rcases List.mem_append.1 hx with hx | hx
      · exact hr x hx
      · rw [List.mem_singleton] at hx; omega)
    refine Ev.step (f := fun k => swarfref38_Nearest.l1 k l out (-1) ((0 : Nat) : Int)) (fun k => ?_) ?_
    · simp only [swarfref38_Nearest.l0]; rw [if_pos (by omega)]; rfl
    · by_cases ho : out = []
      · subst ho
        have hpk : pick l [] = 0 := by unfold pick; rw [if_pos rfl]
        unfold near
        rw [hpk] at hi ⊢
        refine Ev.step (f := fun k => (swarfref38_has.f k [] ((0 : Nat) : Int)).bind fun t => if t = true then swarfref38_Nearest.j2 k l [] (-1) ((0 : Nat) : Int) true else swarfref38_Nearest.j2 k l [] (-1) ((0 : Nat) : Int) false) (fun k => ?_) (Ev.bind (has_ev [] (by simp) ((0 : Nat) : Int)) ?_)
        · simp only [swarfref38_Nearest.l1]
          rw [if_pos (by simp at hl; omega), if_pos (by rfl), decide_eq_false (by omega)]
        · simp only [decide_eq_false (show ¬ ((0 : Nat) : Int) ∈ ([] : List Int) by simp), Bool.false_eq_true, if_false]
          refine Ev.step (fun k => ?_) (rnear_first l hn _ hi (l.length - 1) 1 (by omega) (by simp at hl; omega))
          simp only [swarfref38_Nearest.j2]; rw [if_neg (by decide), if_pos (by omega), show wrap64 (((0 : Nat) : Int) + 1) = ((1 : Nat) : Int) from wrap_mid _ (by omega) (by omega)]; rfl
      · refine rnear_l1 hv hn out (by omega) hr ho _ l.length 0 (-1) (by omega) (.inl rfl) ?_
        have : pick l out = nxF l out (rd out ((out.length : Int) - 1)) l.length 0 (-1) := by unfold pick; rw [if_neg ho]
        rw [← this]
        exact hi
theorem rNearest_ev {l : List S31} (hv : l.all okp = true) (hn : l.length ≤ 200) : Ev (fun k => swarfref38_Nearest.f k l) (near l l.length []) := by
  unfold swarfref38_Nearest.f
  exact rnear_l0 hv hn l.length [] (by simp) (by simp) (fun x hx => by cases hx)
/-! ### It is an order -/
theorem ordS_of (n : Nat) (xs : List Int) : ∀ seen : List Bool, seen.length = n → (∀ x ∈ xs, 0 ≤ x ∧ x < (n : Int) ∧ rdOf false seen x = false) → xs.Nodup → ordS n seen xs = true := by
  induction xs with
  | nil => intro seen _ _ _; rfl
  | cons x xs ih =>
    intro seen hs h hd
    obtain ⟨a, b, c⟩ := h x List.mem_cons_self
    unfold ordS
    rw [if_neg (by omega), if_neg (by omega), if_neg (by rw [c]; decide)]
    refine ih _ (by simp [hs]) (fun y hy => ?_) (List.nodup_cons.1 hd).2
    obtain ⟨a', b', c'⟩ := h y (List.mem_cons_of_mem _ hy)
    refine ⟨a', b', ?_⟩
    rw [rdOf_set seen x y a (by omega) a', if_neg ?_]
    · exact c'
    · rintro rfl
      exact (List.nodup_cons.1 hd).1 hy
theorem isOrd_of {n : Nat} {o : List Int} (h1 : o.length = n) (h2 : n = 0 ∨ rd o 0 = 0) (h3 : ∀ x ∈ o, 0 ≤ x ∧ x < (n : Int)) (h4 : o.Nodup) : isOrd n o = true := by
  unfold isOrd
  rw [if_pos h1, if_pos h2]
  refine ordS_of n o _ (by simp) (fun x hx => ⟨(h3 x hx).1, (h3 x hx).2, ?_⟩) h4
  unfold rdOf
  rw [List.getD_eq_getElem?_getD, List.getElem?_replicate]
  split <;> rfl
theorem compl_ord {l : List S31} {q : List Int} (h : Compl l [0] q) : isOrd l.length q = true := by
  obtain ⟨⟨t, ht⟩, h2, h3, h4⟩ := h
  refine isOrd_of h2 (.inr ?_) h4 h3
  rw [ht]; rfl
theorem near_first (l : List S31) (h : 1 ≤ l.length) : Compl l [0] (near l l.length []) := by
  have hn : l.length = (l.length - 1) + 1 := by omega
  have e : near l l.length [] = near l (l.length - 1) [0] := by
    have hp : pick l [] = 0 := by unfold pick; rw [if_pos rfl]
    have h1 : ∀ d, near l (d + 1) [] = near l d [0] := fun d => by
      show near l d ([] ++ [pick l []]) = _
      rw [hp]; rfl
    conv => lhs; rw [hn]
    exact h1 _
  rw [e]
  exact near_compl l (l.length - 1) [0] (by simp; omega) (by simp) (fun x hx => by rw [List.mem_singleton] at hx; omega)
theorem near_ord (l : List S31) : isOrd l.length (near l l.length []) = true := by
  by_cases h : l.length = 0
  · rw [h]; rfl
  · exact compl_ord (near_first l (by omega))
end Go.Proofs.Ytohjocajaanhaaa.B

/- The statement TourNearest, over plain numbers and lists. -/

namespace Go.Proofs.Ytohjocajaanhaaa.B
open Go.RowKit Go.Proofs.Ytohjocajaanhaaa.P Go.Proofs.YtohjocajaanhaaaW.PrintWords Go.Proofs.YtohjocajaanhaaaW.PrintLast Go.Proofs.YtohjocajaanhaaaW.PrintMore Go.Proofs.Ytohjocajaanhaaa.Mst
set_option linter.unusedVariables false
set_option linter.unusedSimpArgs false
theorem Tree_zero {l : List S31} (h : l.length = 0) : Ev (fun k => tour_Tree.f k l) 0 ∧ Ev (fun k => swarfref38_Tree.f k l) 0 := by
  have h' : (l.length : Int) = 0 := by omega
  constructor
  · unfold tour_Tree.f tour_span.f
    simp only [h', if_pos (show (0 : Int) ≤ 0 by omega), Int.toNat_zero, if_pos (show 0 ≤ 35184372088832 by omega), Option.bind_some, if_true]
    exact Ev.now _
  · unfold swarfref38_Tree.f swarfref38_tree.f
    simp only [h', if_pos (show (0 : Int) ≤ 0 by omega), Int.toNat_zero, if_pos (show 0 ≤ 35184372088832 by omega)]
    refine Ev.bind (a := 0) (ev_end (fun k => ?_)) (Ev.now _)
    simp only [swarfref38_tree.l0]
    rw [if_neg (by simp; omega)]
theorem nearest_j0 (l : List S31) (b : Bool) (hb : b = false → chkE l 12 = 0) : Ev (fun k => swarflaw38_TourNearest.j0 k l b) true := by
  cases b with
  | true =>
    refine Ev.step (f := fun k => (swarflaw38_awake.f k).bind fun t => some t) (fun k => by simp only [swarflaw38_TourNearest.j0]; rfl) ?_
    exact Ev.bind awake_ev (Ev.now _)
  | false =>
    have hc := hb rfl
    obtain ⟨c1, c2⟩ := chkE_zero hc
    have hc200 : chkE l 200 = 0 := by unfold chkE; rw [if_neg (by omega), if_pos c2]
    have hlen := (near_compl l l.length [] (by simp) (by simp) (fun x hx => by cases hx)).2.1
    have hL : lenE l (near l l.length []) = (wy l (near l l.length []), 0) := by unfold lenE; rw [if_pos hc200, if_pos (near_ord l)]
    obtain ⟨t, e1, e2, ht⟩ : ∃ t, Ev (fun k => tour_Tree.f k l) t ∧ Ev (fun k => swarfref38_Tree.f k l) t ∧ t ≤ wy l (near l l.length []) := by
      by_cases h0 : l.length = 0
      · obtain ⟨z1, z2⟩ := Tree_zero h0
        exact ⟨0, z1, z2, wy_nonneg _ _⟩
      · obtain ⟨t, e1, e2, e3⟩ := Tree_ev c2 (by omega) (by omega)
        exact ⟨t, e1, e2, tree_le c2 (by omega) (by omega) e3 (near_first l (by omega))⟩
    refine Ev.step (fun k => by simp only [swarflaw38_TourNearest.j0]; rw [if_neg (by decide)]) ?_
    refine Ev.bind (tNearest_ev c2 (by omega)) (Ev.bind (rNearest_ev c2 (by omega)) (Ev.bind (same_ev _ (by omega)) ?_))
    simp only [if_true]
    refine Ev.bind (Length_ev l _ (by omega)).1 ?_
    simp only [hL, if_true]
    refine Ev.bind e1 (Ev.bind e2 ?_)
    simp only [if_true]
    refine Ev.bind e1 ?_
    simp only [decide_eq_true ht]
    exact Ev.now _
theorem TourNearest (l : List S31) : ∃ k, swarflaw38_TourNearest.f k l = some true := by
  refine Ev.rounds (g := fun k => swarflaw38_TourNearest.f k l) ?_
  unfold swarflaw38_TourNearest.f
  refine Ev.bind awake_ev ?_
  simp only [if_true]
  by_cases hbig : l.length ≤ 1000
  · refine Ev.bind (right_ev l 12 hbig) ?_
    by_cases hc : chkE l 12 = 0
    · exact nearest_j0 l _ (fun _ => hc)
    · exact nearest_j0 l _ (fun h => by simp at h; exact absurd h hc)
  · have hv : Ev (fun k => swarflaw38_right.f k l 12) false := by
      unfold swarflaw38_right.f swarfref38_Valid.f
      simp only [if_pos (show (l.length : Int) > 12 by omega), Option.bind_some]
      exact Ev.now _
    refine Ev.bind hv ?_
    exact nearest_j0 l _ (fun h => by cases h)
end Go.Proofs.Ytohjocajaanhaaa.B
