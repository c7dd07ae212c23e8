/- The row of CycleEnds: its arguments read as plain values, the walk out of the contract, the statement. Written by wip/genrow.py (this session's program). -/
import Derived.Test.YtmaochcdjmnffaaRows
import Derived.Test.YtmaochcdjmnffaaT6Px22
import Derived.Test.YtmaochcdjmnffaaT6C7
import Derived.WalkKit
import Derived.ProofKit
import Derived.OpenShut
import Derived.ShutString
import Derived.ChangeOld
import Derived.Below
import Derived.SizedLaws
import Derived.Deep.Slices
import Derived.Lib.SmallJoins
namespace Go.Proofs.Ytmaochcdjmnffaa.cycleEnds
open Go.ChangeShapes Go.WideShapes Go.ChangeAt Go.RowKit Go.Deep
open Go.ChangeMaps (open_string shut_string)
open Go.Proofs.Ytmaochcdjmnffaa.P Go.Proofs.YtmaochcdjmnffaaW.PrintWords Go.Proofs.YtmaochcdjmnffaaW.PrintLast
set_option linter.unusedVariables false
set_option linter.unusedSimpArgs false
theorem own : ownKnob Try.prog.godebug = none := by kernel_rfl
theorem laidOut : laidOutB Try.prog = true := by kernel_rfl
/-- One value for each place of a row. -/
theorem rows_of {α : Type} (m : Nat) (Q : Nat → α → Prop) (h : ∀ i, i < m → ∃ y, Q i y) : ∃ ys : List α, ys.length = m ∧ ∀ i y, ys[i]? = some y → Q i y := by
  induction m with
  | zero => exact ⟨[], rfl, fun i y hy => by simp at hy⟩
  | succ m ih =>
    obtain ⟨ys, hl, hq⟩ := ih (fun i hi => h i (by omega))
    obtain ⟨y, hy⟩ := h m (by omega)
    refine ⟨ys ++ [y], by simp [hl], fun i z hz => ?_⟩
    rcases Nat.lt_or_ge i ys.length with hi | hi
    · rw [List.getElem?_append_left hi] at hz; exact hq i z hz
    · rw [List.getElem?_append_right hi] at hz
      have h0 : i - ys.length = 0 := by
        rcases Nat.eq_zero_or_pos (i - ys.length) with h0 | h0
        · exact h0
        · rw [List.getElem?_eq_none (by simp; omega)] at hz; cases hz
      rw [h0] at hz
      obtain rfl : y = z := by simpa using hz
      obtain rfl : i = m := by omega
      exact hy
structure S23 where
  f0 : Int
  f1 : Int
  f2 : Int
  f3 : Int
  f4 : Int
  f5 : Int
  f6 : Bool
def k23 : Kd S23 := Kd.iso (Kd.pair (Kd.int .i64) (Kd.pair (Kd.int .i64) (Kd.pair (Kd.int .i64) (Kd.pair (Kd.int .i64) (Kd.pair (Kd.int .i64) (Kd.pair (Kd.int .i64) Kd.bool)))))) (fun x : S23 => (x.f0, x.f1, x.f2, x.f3, x.f4, x.f5, x.f6))
theorem k23_open {w : World} {x : S23} {cs : List Value} (h : k23.K w x cs) : cs = [.int .i64 x.f0, .int .i64 x.f1, .int .i64 x.f2, .int .i64 x.f3, .int .i64 x.f4, .int .i64 x.f5, .bool x.f6] := by
  obtain ⟨_, _, rfl, rfl, ⟨_, _, rfl, rfl, ⟨_, _, rfl, rfl, ⟨_, _, rfl, rfl, ⟨_, _, rfl, rfl, ⟨_, _, rfl, rfl, rfl⟩⟩⟩⟩⟩⟩ := h
  exact rfl
section
variable {H : Type} {enc : TypeId × Value → H} {w : World} {base : Nat} {spare : Nat → Bool} {held : Bool}
def wf2 (y : Int) : Prop := (Lit.int .i64 y).wf = true
theorem read2 {fuel : Nat} {cs : List Value} {x : DataW H × List MemPlace} (h : DataW.trod enc Try.prog w base spare held fuel 2 cs = some x) : ∃ y : Int, (Kd.int .i64).K w y cs ∧ wf2 y := by
  obtain ⟨y, hy, _, hw⟩ := DataW.trod_int Try.underlying2 h
  exact ⟨y, hy, hw⟩
def wf4 (_ : Bool) : Prop := True
theorem read4 {fuel : Nat} {cs : List Value} {x : DataW H × List MemPlace} (h : DataW.trod enc Try.prog w base spare held fuel 4 cs = some x) : ∃ y : Bool, Kd.bool.K w y cs ∧ wf4 y := by
  obtain ⟨y, hy, _⟩ := DataW.trod_bool Try.underlying4 h
  exact ⟨y, hy, trivial⟩
def wf23 (y : S23) : Prop := wf2 y.f0 ∧ wf2 y.f1 ∧ wf2 y.f2 ∧ wf2 y.f3 ∧ wf2 y.f4 ∧ wf2 y.f5 ∧ wf4 y.f6
theorem read23 {fuel : Nat} {cs : List Value} {x : DataW H × List MemPlace} (h : DataW.trod enc Try.prog w base spare held fuel 23 cs = some x) : ∃ y : S23, k23.K w y cs ∧ wf23 y := by
  have hC : Try.prog.cellsOf 23 = 7 := by kernel_rfl
  have hF2 : Try.prog.cellsOf 2 = 1 := by kernel_rfl
  have hF4 : Try.prog.cellsOf 4 = 1 := by kernel_rfl
  obtain ⟨xs, n, _, _, hlen, hl, hf⟩ := DataW.trod_struct Try.underlying23 h
  match cs, hlen.trans hC with
  | [c0, c1, c2, c3, c4, c5, c6], _ =>
    have q0 : DataW.trod enc Try.prog w base spare held n 2 (List.take (Try.prog.cellsOf 2) (List.drop 0 [c0, c1, c2, c3, c4, c5, c6])) = xs[0]? := hf 0 _ rfl
    rw [show xs[0]? = some (xs[0]'(by rw [hl]; decide)) from List.getElem?_eq_getElem _, hF2] at q0
    obtain ⟨y0, K0, W0⟩ := read2 (cs := [c0]) q0
    have q1 : DataW.trod enc Try.prog w base spare held n 2 (List.take (Try.prog.cellsOf 2) (List.drop 1 [c0, c1, c2, c3, c4, c5, c6])) = xs[1]? := hf 1 _ rfl
    rw [show xs[1]? = some (xs[1]'(by rw [hl]; decide)) from List.getElem?_eq_getElem _, hF2] at q1
    obtain ⟨y1, K1, W1⟩ := read2 (cs := [c1]) q1
    have q2 : DataW.trod enc Try.prog w base spare held n 2 (List.take (Try.prog.cellsOf 2) (List.drop 2 [c0, c1, c2, c3, c4, c5, c6])) = xs[2]? := hf 2 _ rfl
    rw [show xs[2]? = some (xs[2]'(by rw [hl]; decide)) from List.getElem?_eq_getElem _, hF2] at q2
    obtain ⟨y2, K2, W2⟩ := read2 (cs := [c2]) q2
    have q3 : DataW.trod enc Try.prog w base spare held n 2 (List.take (Try.prog.cellsOf 2) (List.drop 3 [c0, c1, c2, c3, c4, c5, c6])) = xs[3]? := hf 3 _ rfl
    rw [show xs[3]? = some (xs[3]'(by rw [hl]; decide)) from List.getElem?_eq_getElem _, hF2] at q3
    obtain ⟨y3, K3, W3⟩ := read2 (cs := [c3]) q3
    have q4 : DataW.trod enc Try.prog w base spare held n 2 (List.take (Try.prog.cellsOf 2) (List.drop 4 [c0, c1, c2, c3, c4, c5, c6])) = xs[4]? := hf 4 _ rfl
    rw [show xs[4]? = some (xs[4]'(by rw [hl]; decide)) from List.getElem?_eq_getElem _, hF2] at q4
    obtain ⟨y4, K4, W4⟩ := read2 (cs := [c4]) q4
    have q5 : DataW.trod enc Try.prog w base spare held n 2 (List.take (Try.prog.cellsOf 2) (List.drop 5 [c0, c1, c2, c3, c4, c5, c6])) = xs[5]? := hf 5 _ rfl
    rw [show xs[5]? = some (xs[5]'(by rw [hl]; decide)) from List.getElem?_eq_getElem _, hF2] at q5
    obtain ⟨y5, K5, W5⟩ := read2 (cs := [c5]) q5
    have q6 : DataW.trod enc Try.prog w base spare held n 4 (List.take (Try.prog.cellsOf 4) (List.drop 6 [c0, c1, c2, c3, c4, c5, c6])) = xs[6]? := hf 6 _ rfl
    rw [show xs[6]? = some (xs[6]'(by rw [hl]; decide)) from List.getElem?_eq_getElem _, hF4] at q6
    obtain ⟨y6, K6, W6⟩ := read4 (cs := [c6]) q6
    exact ⟨⟨y0, y1, y2, y3, y4, y5, y6⟩, ⟨[c0], [c1, c2, c3, c4, c5, c6], rfl, K0, ⟨[c1], [c2, c3, c4, c5, c6], rfl, K1, ⟨[c2], [c3, c4, c5, c6], rfl, K2, ⟨[c3], [c4, c5, c6], rfl, K3, ⟨[c4], [c5, c6], rfl, K4, ⟨[c5], [c6], rfl, K5, K6⟩⟩⟩⟩⟩⟩, W0, W1, W2, W3, W4, W5, W6⟩
def wf36 (y : S36) : Prop := wf2 y.f0 ∧ wf2 y.f1 ∧ wf2 y.f2
theorem read36 {fuel : Nat} {cs : List Value} {x : DataW H × List MemPlace} (h : DataW.trod enc Try.prog w base spare held fuel 36 cs = some x) : ∃ y : S36, k36.K w y cs ∧ wf36 y := by
  have hC : Try.prog.cellsOf 36 = 3 := by kernel_rfl
  have hF2 : Try.prog.cellsOf 2 = 1 := by kernel_rfl
  obtain ⟨xs, n, _, _, hlen, hl, hf⟩ := DataW.trod_struct Try.underlying36 h
  match cs, hlen.trans hC with
  | [c0, c1, c2], _ =>
    have q0 : DataW.trod enc Try.prog w base spare held n 2 (List.take (Try.prog.cellsOf 2) (List.drop 0 [c0, c1, c2])) = xs[0]? := hf 0 _ rfl
    rw [show xs[0]? = some (xs[0]'(by rw [hl]; decide)) from List.getElem?_eq_getElem _, hF2] at q0
    obtain ⟨y0, K0, W0⟩ := read2 (cs := [c0]) q0
    have q1 : DataW.trod enc Try.prog w base spare held n 2 (List.take (Try.prog.cellsOf 2) (List.drop 1 [c0, c1, c2])) = xs[1]? := hf 1 _ rfl
    rw [show xs[1]? = some (xs[1]'(by rw [hl]; decide)) from List.getElem?_eq_getElem _, hF2] at q1
    obtain ⟨y1, K1, W1⟩ := read2 (cs := [c1]) q1
    have q2 : DataW.trod enc Try.prog w base spare held n 2 (List.take (Try.prog.cellsOf 2) (List.drop 2 [c0, c1, c2])) = xs[2]? := hf 2 _ rfl
    rw [show xs[2]? = some (xs[2]'(by rw [hl]; decide)) from List.getElem?_eq_getElem _, hF2] at q2
    obtain ⟨y2, K2, W2⟩ := read2 (cs := [c2]) q2
    exact ⟨⟨y0, y1, y2⟩, ⟨[c0], [c1, c2], rfl, K0, ⟨[c1], [c2], rfl, K1, K2⟩⟩, W0, W1, W2⟩
def wf43 (y : S43) : Prop := wf2 y.f0 ∧ wf2 y.f1
theorem read43 {fuel : Nat} {cs : List Value} {x : DataW H × List MemPlace} (h : DataW.trod enc Try.prog w base spare held fuel 43 cs = some x) : ∃ y : S43, k43.K w y cs ∧ wf43 y := by
  have hC : Try.prog.cellsOf 43 = 2 := by kernel_rfl
  have hF2 : Try.prog.cellsOf 2 = 1 := by kernel_rfl
  obtain ⟨xs, n, _, _, hlen, hl, hf⟩ := DataW.trod_struct Try.underlying43 h
  match cs, hlen.trans hC with
  | [c0, c1], _ =>
    have q0 : DataW.trod enc Try.prog w base spare held n 2 (List.take (Try.prog.cellsOf 2) (List.drop 0 [c0, c1])) = xs[0]? := hf 0 _ rfl
    rw [show xs[0]? = some (xs[0]'(by rw [hl]; decide)) from List.getElem?_eq_getElem _, hF2] at q0
    obtain ⟨y0, K0, W0⟩ := read2 (cs := [c0]) q0
    have q1 : DataW.trod enc Try.prog w base spare held n 2 (List.take (Try.prog.cellsOf 2) (List.drop 1 [c0, c1])) = xs[1]? := hf 1 _ rfl
    rw [show xs[1]? = some (xs[1]'(by rw [hl]; decide)) from List.getElem?_eq_getElem _, hF2] at q1
    obtain ⟨y1, K1, W1⟩ := read2 (cs := [c1]) q1
    exact ⟨⟨y0, y1⟩, ⟨[c0], [c1], rfl, K0, K1⟩, W0, W1⟩
def wf37 (y : List S43) : Prop := y.length ≤ maxLen ∧ ∀ z ∈ y, wf43 z
theorem read37 {fuel : Nat} {cs : List Value} {x : DataW H × List MemPlace} (h : DataW.trod enc Try.prog w base spare held fuel 37 cs = some x) : ∃ y : List S43, (Kd.slice 43 k43).K w y cs ∧ wf37 y := by
  have hC : Try.prog.cellsOf 43 = 2 := by kernel_rfl
  rcases open_slice Try.underlying37 h with ⟨rfl, _⟩ | ⟨a, len, cap, m, n, D, Pl, rfl, hb, hl, hm, hmm, _, hi⟩
  · exact ⟨[], ⟨none, 0, rfl, Nat.le_refl _, Kd.C_nil _ _⟩, by simp [maxLen], fun z hz => by cases hz⟩
  · have hlm : len ≤ m := by rw [hmm]; split <;> omega
    obtain ⟨ys, hyl, hys⟩ := rows_of len (fun i y => (∃ c, c.length = 2 ∧ k43.K w y c ∧ ∀ j u, c[j]? = some u → w.cell? (a.add (i * 2 + j)) = some u) ∧ wf43 y) (fun i hlt => by
      obtain ⟨c, hc, ht⟩ := hi i (by omega)
      rw [hC] at hc
      obtain ⟨_, hcl, hat⟩ := World.cells?_some hc
      obtain ⟨y, hK, hw⟩ := read43 ht
      refine ⟨y, ⟨c, hcl, hK, fun j u hu => ?_⟩, hw⟩
      have hj : j < c.length := (List.getElem?_eq_some_iff.1 hu).1
      have h2 := hat j (by omega)
      rw [hu, Go.Deep.add_add] at h2
      exact h2)
    have hmx : len ≤ 9223372036854775807 := by unfold maxLen at hm; omega
    refine ⟨ys, ⟨some a, cap, by rw [hyl], by rw [hyl]; exact hl, ⟨rfl, by rw [hyl]; exact hmx, fun _ => ⟨a, rfl, fun j q hq => (hys j q hq).1⟩⟩⟩, by rw [hyl]; exact Nat.le_trans hl hm, fun z hz => ?_⟩
    obtain ⟨i, hlt, rfl⟩ := List.getElem_of_mem hz
    exact (hys i _ (List.getElem?_eq_getElem hlt)).2
end
theorem pure (y0 : S23) (y1 : S36) (y2 : List S43) (w0 : wf23 y0) (w1 : wf36 y1) (w2 : wf37 y2) : ∃ k, swarflaw44_CycleEnds.f k y0.f0 y0.f1 y0.f2 y0.f3 y0.f4 y0.f5 y0.f6 y1.f0 y1.f1 y1.f2 y2 = some true := Go.Proofs.Ytmaochcdjmnffaa.B.CycleEnds y0.f0 y0.f1 y0.f2 y0.f3 y0.f4 y0.f5 y0.f6 y1.f0 y1.f1 y1.f2 y2
set_option maxRecDepth 100000 in
theorem lifted (os : Os) (started : os.Started) (H : Type) (enc : TypeId × Value → H) :
    ReturnsInHanded {} Try.checked os 4 .any (Rows.cycleEndsSpec.pre6 enc Try.prog Try.f4 Rows.cycleEndsRow.domain false) (Rows.cycleEndsSpec.post enc Try.prog Try.f4 false true false false) := by
  refine returnsInHanded_of_change_sized (C := Try.checked) own started (by kernel_rfl) Try.func4
    (ChangeSpec.witness6 (enc := enc) (C := Try.checked) false ⟨#[], #[.agg #[.int .i64 0, .int .i64 0, .int .i64 0, .int .i64 0, .int .i64 0, .int .i64 0, .bool false], .agg #[.int .i64 0, .int .i64 0, .int .i64 0], .slice none 0 0], []⟩ 8 (by kernel_rfl) (by kernel_rfl) (by kernel_rfl) (by kernel_rfl)) ?_
  intro W base args ds gs before hval0 hW hcnd hsz0 _
  have hval : ∀ (j : Nat) t v, Try.f4.params[j]? = some t → args[j]? = some v → Value.okWide Try.prog W .any base t v := hval0
  have hW' := hW
  obtain ⟨p, q, hA0, hV, rfl, hfz, hnd⟩ := hW
  have hA : DataW.TrodAll enc Try.prog W 0 (fun _ => true) true Try.f4.params.toList args.toList ds p := hA0
  rw [Try.params4] at hA hval
  obtain ⟨v0, vs0, d0, ds0, p0, q0, hargs, rfl, rfl, h0, r0⟩ := trodAll_cons hA
  obtain ⟨v1, vs1, d1, ds1, p1, q1, rfl, rfl, rfl, h1, r1⟩ := trodAll_cons r0
  obtain ⟨v2, vs2, d2, ds2, p2, q2, rfl, rfl, rfl, h2, r2⟩ := trodAll_cons r1
  obtain ⟨rfl, rfl, rfl⟩ := trodAll_nil r2
  obtain rfl : args = #[v0, v1, v2] := by cases args; simp_all
  obtain ⟨rfl, rfl⟩ := trodVars_none hV
  have lt0 : ∀ x ∈ p0, x.block < W.heap.size := by obtain ⟨m, hm⟩ := h0; exact DataW.trod_lt m _ _ _ hm
  obtain ⟨fu0, hf0⟩ := id h0
  obtain ⟨y0, K0, w0⟩ := read23 hf0
  obtain ⟨cs0, rfl, _⟩ := okWide_struct Try.underlying23 (hval 0 23 v0 rfl rfl)
  have e0 := k23_open K0
  obtain rfl : cs0 = #[.int .i64 y0.f0, .int .i64 y0.f1, .int .i64 y0.f2, .int .i64 y0.f3, .int .i64 y0.f4, .int .i64 y0.f5, .bool y0.f6] := by cases cs0; simpa [Value.cells] using e0
  have lt1 : ∀ x ∈ p1, x.block < W.heap.size := by obtain ⟨m, hm⟩ := h1; exact DataW.trod_lt m _ _ _ hm
  obtain ⟨fu1, hf1⟩ := id h1
  obtain ⟨y1, K1, w1⟩ := read36 hf1
  obtain ⟨cs1, rfl, _⟩ := okWide_struct Try.underlying36 (hval 1 36 v1 rfl rfl)
  have e1 := k36_open K1
  obtain rfl : cs1 = #[.int .i64 y1.f0, .int .i64 y1.f1, .int .i64 y1.f2] := by cases cs1; simpa [Value.cells] using e1
  have lt2 : ∀ x ∈ p2, x.block < W.heap.size := by obtain ⟨m, hm⟩ := h2; exact DataW.trod_lt m _ _ _ hm
  obtain ⟨fu2, hf2⟩ := id h2
  obtain ⟨y2, K2, w2⟩ := read37 hf2
  obtain ⟨a2, len2, cap2, rfl⟩ := okWide_slice Try.underlying37 (hval 2 37 v2 rfl rfl)
  obtain ⟨A2, c2, e2, hc2, hC2⟩ := K2
  simp [Value.cells] at e2
  obtain ⟨rfl, rfl, rfl⟩ := e2
  obtain ⟨k, hk⟩ := pure y0 y1 y2 w0 w1 w2
  refine (swarflaw44_CycleEnds.calls k y0.f0 y0.f1 y0.f2 y0.f3 y0.f4 y0.f5 y0.f6 y1.f0 y1.f1 y1.f2 _ _ y2 true W hC2 hc2 hk rfl).mono fun e W' ⟨he, bel⟩ => ?_
  subst he
  exact ⟨_, rfl, _, _, _, [], _, [], hW', trodAll_mk1 (shut_bool Try.underlying4 _), (trodAll_cons_mk (Below.trod laidOut (by kernel_rfl) (of_decide_eq_true (by kernel_rfl)) h0 bel lt0) (trodAll_cons_mk (Below.trod laidOut (by kernel_rfl) (of_decide_eq_true (by kernel_rfl)) h1 bel lt1) (trodAll_cons_mk (Below.trod laidOut (by kernel_rfl) (of_decide_eq_true (by kernel_rfl)) h2 bel lt2) trodAll_mk0))), rfl, bel.frame _, fun h => by cases h⟩
theorem over : Rows.cycleEndsRow.holds Try.pinned (OpenSpec.ofChange Rows.cycleEndsSpec) :=
  OpenClaim.holds_of_wide 4 Try.f4 rfl rfl rfl rfl rfl rfl rfl ⟨rfl, rfl, rfl, rfl, rfl⟩ rfl rfl rfl rfl rfl (by kernel_rfl) Try.func4 (by kernel_rfl)
    (of_decide_eq_true (by kernel_rfl)) (by unfold Func.isWrapper; first | (rw [if_pos (by decide +kernel)]; kernel_rfl) | (rw [if_neg (by decide +kernel)]; exact ⟨rfl, rfl⟩))
    (fun os started H enc _ => lifted os started H enc)
theorem proved : Rows.CycleEndsSaid := over
end Go.Proofs.Ytmaochcdjmnffaa.cycleEnds
namespace Go.Proofs.Ytmaochcdjmnffaa
theorem cycleEnds_holds : Rows.CycleEndsSaid := cycleEnds.proved
#print axioms cycleEnds_holds
end Go.Proofs.Ytmaochcdjmnffaa
