/- The row of PrecedenceReduced: its arguments read as plain values, the walk out of the contract, the statement. Written by wip/genrow.py (this session's program). -/
import Derived.Test.YtbbkclcfmcjlgaaRows
import Derived.Test.YtbbkclcfmcjlgaaT7M27
import Derived.Test.YtbbkclcfmcjlgaaT7M31
import Derived.WalkKit
import Derived.ProofKit
import Derived.OpenShut
import Derived.ShutString
import Derived.ChangeOld
import Derived.Below
import Derived.SizedLaws
import Derived.Deep.Slices
import Derived.Lib.SmallJoins

namespace Go.Proofs.Ytbbkclcfmcjlgaa.precedenceReduced
open Go.ChangeShapes Go.WideShapes Go.ChangeAt Go.RowKit Go.Deep
open Go.ChangeMaps (open_string shut_string)
open Go.Proofs.Ytbbkclcfmcjlgaa.P Go.Proofs.YtbbkclcfmcjlgaaW.PrintWords Go.Proofs.YtbbkclcfmcjlgaaW.PrintLast
set_option linter.unusedVariables false
set_option linter.unusedSimpArgs false
theorem own : ownKnob Try.prog.godebug = none := by kernel_rfl
theorem laidOut : laidOutB Try.prog = true := by kernel_rfl
/-- One value for each place of a row. -/
theorem rows_of {α : Type} (m : Nat) (Q : Nat → α → Prop) (h : ∀ i, i < m → ∃ y, Q i y) : ∃ ys : List α, ys.length = m ∧ ∀ i y, ys[i]? = some y → Q i y := by
  induction m with
  | zero => exact ⟨[], rfl, fun i y hy => by simp at hy⟩
  | succ m ih =>
    obtain ⟨ys, hl, hq⟩ := ih (fun i hi => h i (by omega))
    obtain ⟨y, hy⟩ := h m (by omega)
    refine ⟨ys ++ [y], by simp [hl], fun i z hz => ?_⟩
    rcases Nat.lt_or_ge i ys.length with hi | hi
    · rw [List.getElem?_append_left hi] at hz; exact hq i z hz
    · rw [List.getElem?_append_right hi] at hz
      have h0 : i - ys.length = 0 := by
        rcases Nat.eq_zero_or_pos (i - ys.length) with h0 | h0
        · exact h0
        · rw [List.getElem?_eq_none (by simp; omega)] at hz; cases hz
      rw [h0] at hz
      obtain rfl : y = z := by simpa using hz
      obtain rfl : i = m := by omega
      exact hy
section
variable {H : Type} {enc : TypeId × Value → H} {w : World} {base : Nat} {spare : Nat → Bool} {held : Bool}
def wf3 (y : Int) : Prop := (Lit.int .i64 y).wf = true
theorem read3 {fuel : Nat} {cs : List Value} {x : DataW H × List MemPlace} (h : DataW.trod enc Try.prog w base spare held fuel 3 cs = some x) : ∃ y : Int, (Kd.int .i64).K w y cs ∧ wf3 y := by
  obtain ⟨y, hy, _, hw⟩ := DataW.trod_int Try.underlying3 h
  exact ⟨y, hy, hw⟩
def wf47 (y : S47) : Prop := wf3 y.f0 ∧ wf3 y.f1
theorem read47 {fuel : Nat} {cs : List Value} {x : DataW H × List MemPlace} (h : DataW.trod enc Try.prog w base spare held fuel 47 cs = some x) : ∃ y : S47, k47.K w y cs ∧ wf47 y := by
  have hC : Try.prog.cellsOf 47 = 2 := by kernel_rfl
  have hF3 : Try.prog.cellsOf 3 = 1 := by kernel_rfl
  obtain ⟨xs, n, _, _, hlen, hl, hf⟩ := DataW.trod_array Try.underlying47 h
  match cs, hlen.trans hC with
  | [c0, c1], _ =>
    have q0 : DataW.trod enc Try.prog w base spare held n 3 (List.take (Try.prog.cellsOf 3) (List.drop 0 [c0, c1])) = xs[0]? := hf 0 (by omega)
    rw [show xs[0]? = some (xs[0]'(by rw [hl]; decide)) from List.getElem?_eq_getElem _, hF3] at q0
    obtain ⟨y0, K0, W0⟩ := read3 (cs := [c0]) q0
    have q1 : DataW.trod enc Try.prog w base spare held n 3 (List.take (Try.prog.cellsOf 3) (List.drop 1 [c0, c1])) = xs[1]? := hf 1 (by omega)
    rw [show xs[1]? = some (xs[1]'(by rw [hl]; decide)) from List.getElem?_eq_getElem _, hF3] at q1
    obtain ⟨y1, K1, W1⟩ := read3 (cs := [c1]) q1
    exact ⟨⟨y0, y1⟩, ⟨[c0], [c1], rfl, K0, K1⟩, W0, W1⟩
def wf22 (y : List S47) : Prop := y.length ≤ maxLen ∧ ∀ z ∈ y, wf47 z
theorem read22 {fuel : Nat} {cs : List Value} {x : DataW H × List MemPlace} (h : DataW.trod enc Try.prog w base spare held fuel 22 cs = some x) : ∃ y : List S47, (Kd.slice 47 k47).K w y cs ∧ wf22 y := by
  have hC : Try.prog.cellsOf 47 = 2 := by kernel_rfl
  rcases open_slice Try.underlying22 h with ⟨rfl, _⟩ | ⟨a, len, cap, m, n, D, Pl, rfl, hb, hl, hm, hmm, _, hi⟩
  · exact ⟨[], ⟨none, 0, rfl, Nat.le_refl _, Kd.C_nil _ _⟩, by simp [maxLen], fun z hz => by cases hz⟩
  · have hlm : len ≤ m := by rw [hmm]; split <;> omega
    obtain ⟨ys, hyl, hys⟩ := rows_of len (fun i y => (∃ c, c.length = 2 ∧ k47.K w y c ∧ ∀ j u, c[j]? = some u → w.cell? (a.add (i * 2 + j)) = some u) ∧ wf47 y) (fun i hlt => by
      obtain ⟨c, hc, ht⟩ := hi i (by omega)
      rw [hC] at hc
      obtain ⟨_, hcl, hat⟩ := World.cells?_some hc
      obtain ⟨y, hK, hw⟩ := read47 ht
      refine ⟨y, ⟨c, hcl, hK, fun j u hu => ?_⟩, hw⟩
      have hj : j < c.length := (List.getElem?_eq_some_iff.1 hu).1
      have h2 := hat j (by omega)
      rw [hu, Go.Deep.add_add] at h2
      exact h2)
    have hmx : len ≤ 9223372036854775807 := by unfold maxLen at hm; omega
    refine ⟨ys, ⟨some a, cap, by rw [hyl], by rw [hyl]; exact hl, ⟨rfl, by rw [hyl]; exact hmx, fun _ => ⟨a, rfl, fun j q hq => (hys j q hq).1⟩⟩⟩, by rw [hyl]; exact Nat.le_trans hl hm, fun z hz => ?_⟩
    obtain ⟨i, hlt, rfl⟩ := List.getElem_of_mem hz
    exact (hys i _ (List.getElem?_eq_getElem hlt)).2
def wf5 (y : Int) : Prop := (Lit.int .u8 y).wf = true
theorem read5 {fuel : Nat} {cs : List Value} {x : DataW H × List MemPlace} (h : DataW.trod enc Try.prog w base spare held fuel 5 cs = some x) : ∃ y : Int, (Kd.int .u8).K w y cs ∧ wf5 y := by
  obtain ⟨y, hy, _, hw⟩ := DataW.trod_int Try.underlying5 h
  exact ⟨y, hy, hw⟩
end
theorem pure (y0 : Int) (y1 : List S47) (y2 : Int) (w0 : wf3 y0) (w1 : wf22 y1) (w2 : wf5 y2) : ∃ k, swarflaw29_PrecedenceReduced.f k y0 y1 y2 = some true := Go.Proofs.Ytbbkclcfmcjlgaa.B.PrecedenceReduced y0 y1 y2 (by have h := w2; simp [wf5, Lit.wf, IntKind.min, IntKind.max, IntKind.signed, IntKind.bits] at h; omega)
set_option maxRecDepth 100000 in
theorem lifted (os : Os) (started : os.Started) (H : Type) (enc : TypeId × Value → H) :
    ReturnsInHanded {} Try.checked os 3 .any (Rows.precedenceReducedSpec.pre6 enc Try.prog Try.f3 Rows.precedenceReducedRow.domain false) (Rows.precedenceReducedSpec.post enc Try.prog Try.f3 false true false false) := by
  refine returnsInHanded_of_change_sized (C := Try.checked) own started (by kernel_rfl) Try.func3
    (ChangeSpec.witness6 (enc := enc) (C := Try.checked) false ⟨#[], #[.int .i64 0, .slice none 0 0, .int .u8 0], []⟩ 8 (by kernel_rfl) (by kernel_rfl) (by kernel_rfl) (by kernel_rfl)) ?_
  intro W base args ds gs before hval0 hW hcnd hsz0 _
  have hval : ∀ (j : Nat) t v, Try.f3.params[j]? = some t → args[j]? = some v → Value.okWide Try.prog W .any base t v := hval0
  have hW' := hW
  obtain ⟨p, q, hA0, hV, rfl, hfz, hnd⟩ := hW
  have hA : DataW.TrodAll enc Try.prog W 0 (fun _ => true) true Try.f3.params.toList args.toList ds p := hA0
  rw [Try.params3] at hA hval
  obtain ⟨v0, vs0, d0, ds0, p0, q0, hargs, rfl, rfl, h0, r0⟩ := trodAll_cons hA
  obtain ⟨v1, vs1, d1, ds1, p1, q1, rfl, rfl, rfl, h1, r1⟩ := trodAll_cons r0
  obtain ⟨v2, vs2, d2, ds2, p2, q2, rfl, rfl, rfl, h2, r2⟩ := trodAll_cons r1
  obtain ⟨rfl, rfl, rfl⟩ := trodAll_nil r2
  obtain rfl : args = #[v0, v1, v2] := by cases args; simp_all
  obtain ⟨rfl, rfl⟩ := trodVars_none hV
  have lt0 : ∀ x ∈ p0, x.block < W.heap.size := by obtain ⟨m, hm⟩ := h0; exact DataW.trod_lt m _ _ _ hm
  obtain ⟨fu0, hf0⟩ := id h0
  obtain ⟨y0, K0, w0⟩ := read3 hf0
  obtain ⟨z0, rfl, _, _, _⟩ := open_int Try.underlying3 (hval 0 3 v0 rfl rfl) h0
  obtain rfl : y0 = z0 := by have := K0; simp only [Kd.int, Kd.scalar, Value.cells] at this; simpa using this.symm
  have lt1 : ∀ x ∈ p1, x.block < W.heap.size := by obtain ⟨m, hm⟩ := h1; exact DataW.trod_lt m _ _ _ hm
  obtain ⟨fu1, hf1⟩ := id h1
  obtain ⟨y1, K1, w1⟩ := read22 hf1
  obtain ⟨a1, len1, cap1, rfl⟩ := okWide_slice Try.underlying22 (hval 1 22 v1 rfl rfl)
  obtain ⟨A1, c1, e1, hc1, hC1⟩ := K1
  simp [Value.cells] at e1
  obtain ⟨rfl, rfl, rfl⟩ := e1
  have lt2 : ∀ x ∈ p2, x.block < W.heap.size := by obtain ⟨m, hm⟩ := h2; exact DataW.trod_lt m _ _ _ hm
  obtain ⟨fu2, hf2⟩ := id h2
  obtain ⟨y2, K2, w2⟩ := read5 hf2
  obtain ⟨z2, rfl, _, _, _⟩ := open_int Try.underlying5 (hval 2 5 v2 rfl rfl) h2
  obtain rfl : y2 = z2 := by have := K2; simp only [Kd.int, Kd.scalar, Value.cells] at this; simpa using this.symm
  obtain ⟨k, hk⟩ := pure y0 y1 y2 w0 w1 w2
  refine (swarflaw29_PrecedenceReduced.calls k y0 _ _ y1 y2 true W hC1 hc1 hk rfl).mono fun e W' ⟨he, bel⟩ => ?_
  subst he
  exact ⟨_, rfl, _, _, _, [], _, [], hW', trodAll_mk1 (shut_bool Try.underlying4 _), (trodAll_cons_mk (Below.trod laidOut (by kernel_rfl) (of_decide_eq_true (by kernel_rfl)) h0 bel lt0) (trodAll_cons_mk (Below.trod laidOut (by kernel_rfl) (of_decide_eq_true (by kernel_rfl)) h1 bel lt1) (trodAll_cons_mk (Below.trod laidOut (by kernel_rfl) (of_decide_eq_true (by kernel_rfl)) h2 bel lt2) trodAll_mk0))), rfl, bel.frame _, fun h => by cases h⟩
theorem over : Rows.precedenceReducedRow.holds Try.pinned (OpenSpec.ofChange Rows.precedenceReducedSpec) :=
  OpenClaim.holds_of_wide 3 Try.f3 rfl rfl rfl rfl rfl rfl rfl ⟨rfl, rfl, rfl, rfl, rfl⟩ rfl rfl rfl rfl rfl (by kernel_rfl) Try.func3 (by kernel_rfl)
    (of_decide_eq_true (by kernel_rfl)) (by unfold Func.isWrapper; first | (rw [if_pos (by decide +kernel)]; kernel_rfl) | (rw [if_neg (by decide +kernel)]; exact ⟨rfl, rfl⟩))
    (fun os started H enc _ => lifted os started H enc)
theorem proved : Rows.PrecedenceReducedSaid := over
end Go.Proofs.Ytbbkclcfmcjlgaa.precedenceReduced
namespace Go.Proofs.Ytbbkclcfmcjlgaa
theorem precedenceReduced_holds : Rows.PrecedenceReducedSaid := precedenceReduced.proved
#print axioms precedenceReduced_holds
end Go.Proofs.Ytbbkclcfmcjlgaa
