import Derived.Test.YtohjocajaanhaaaT6M21
import Derived.WalkSpells
import Derived.Test.YtohjocajaanhaaaT6M26
import Derived.Test.YtohjocajaanhaaaT6M24
import Derived.Test.YtohjocajaanhaaaT6M25
/- The contract of slices.Reverse at []int (function 43) on a part of an owned slice, by hand. -/

namespace Go.Proofs.Ytohjocajaanhaaa.P
open Go.RowKit Go.Proofs.YtohjocajaanhaaaW.PrintWords Go.Proofs.YtohjocajaanhaaaW.PrintLast Go.Proofs.YtohjocajaanhaaaW.PrintMore
set_option linter.unusedVariables false
set_option linter.unusedSimpArgs false

/-- The part of m elements from a on, reversed from both ends. -/
def tour_rev.l0 (a m : Nat) : Nat → List Int → Int → Int → Option (List Int)
 | 0, _, _, _ => none
 | k + 1, xs, x2, x3 => if x2 < x3 then (if 0 ≤ x2 then (if x3 < (m : Int) then tour_rev.l0 a m k ((xs.set ((a : Int) + x2).toNat (rd xs ((a : Int) + x3))).set ((a : Int) + x3).toNat (rd xs ((a : Int) + x2))) (wrap64 (x2 + 1)) (wrap64 (x3 - 1)) else none) else none) else some xs
theorem tour_rev.mono (a m : Nat) : ∀ k y0 y1 y2, LeO (tour_rev.l0 a m k y0 y1 y2) (tour_rev.l0 a m (k + 1) y0 y1 y2)
 | 0 => fun _ _ _ r h => by simp [tour_rev.l0] at h
 | k + 1 => fun y0 y1 y2 => by
  have ih := tour_rev.mono a m k
  unfold tour_rev.l0
  exact LeO.ite (LeO.ite (LeO.ite (ih _ _ _) (LeO.none _)) (LeO.none _)) (LeO.refl _)
set_option maxHeartbeats 4000000 in
set_option maxRecDepth 100000 in
theorem tour_rev.calls (k a m g n cap c2 : Nat) (l r : List Int) (w0 w : World) (hB : Below w0.heap.size w0 w) (ho : Kd.R (Kd.int .i64) 3 w w0.heap.size (fun _ => True) (.slice (some ⟨g, 0, none⟩) n cap) l) (ham : a + m ≤ l.length) (hm : m < 100000)
  (h : tour_rev.l0 a m k l 0 (wrap64 ((m : Int) - 1)) = some r) :
  Calls Try.prog 43 #[.slice (some ⟨g, a, none⟩) m c2] w fun e w' => e = .returned (.tuple #[]) ∧ Kd.R (Kd.int .i64) 3 w' w0.heap.size (fun _ => True) (.slice (some ⟨g, 0, none⟩) n cap) r ∧ Below w0.heap.size w0 w' := by
 have HO0 := Aside0.mk ho
 have HB0 := Aside0.mk hB
 have hnl := (Kd.R_reads' ho).1
 have H' := Aside0.mk h
 have hwm : wrap64 ((m : Int) - 1) = (m : Int) - 1 := by unfold wrap64; omega
 rw [hwm] at H'
 clear ho hB h hwm
 go_enter Try.func43, Try.ntmps43
 go_wp2
 go_loopg [2, 3] k (fun kq v2 v3 w' => ∃ (xs : List Int) (x2 : Int) (x3 : Int), v2 = .int .i64 x2 ∧ v3 = .int .i64 x3 ∧ Aside0 (tour_rev.l0 a m kq xs x2 x3 = some r) ∧ Aside0 (kq ≤ k) ∧ Aside0 (-100000 ≤ x3) ∧ Aside0 (Kd.R (Kd.int .i64) 3 w' w0.heap.size (fun _ => True) (.slice (some ⟨g, 0, none⟩) n cap) xs) ∧ Aside0 (Below w0.heap.size w0 w'))
 case atStart => exact ⟨l, 0, (m : Int) - 1, rfl, (by first | rfl | (simp; done)), H', ⟨Nat.le_refl _⟩, ⟨by omega⟩, HO0, HB0⟩
 case round =>
  clear H' HO0 HB0
  obtain ⟨xs, x2, x3, rfl, rfl, HA, HK1, HX3, HO, HB⟩ := hrel
  have hl1 := (Kd.R_reads' HO.out).1
  cases gk with
  | zero => exact absurd HA.out (by simp [tour_rev.l0])
  | succ k1 =>
   have H := HA.out
   clear HA
   simp only [tour_rev.l0] at H
   by_cases c3 : x2 < x3
   ·rw [if_pos c3] at H
    have c3b0 : decide (x2 < x3) = true := decide_eq_true c3
    by_cases c4 : 0 ≤ x2
    ·rw [if_pos c4] at H
     by_cases c5 : x3 < (m : Int)
     ·rw [if_pos c5] at H; have H' := Aside0.mk H; clear H
      have Hw2 := Aside0.mk (show wrap64 (x2 + 1) = x2 + 1 by unfold wrap64; omega)
      have Hw3 := Aside0.mk (show wrap64 (x3 - 1) = x3 - 1 by unfold wrap64; omega)
      have e2 : ((a : Int) + x2).toNat = a + x2.toNat := by omega
      have e3 : ((a : Int) + x3).toNat = a + x3.toNat := by omega
      rw [e2, e3] at H'
      have HO' := Aside0.mk (Kd.R_drew HO.out)
      have HB' := Aside0.mk (below_drew1 HB.out)
      clear HO HB; have HO := HO'; have HB := HB'; clear HO' HB'
      obtain ⟨hx3, hf3⟩ := Kd.R_celln 0 HO.out ((a : Int) + x3) (by omega) (by omega)
      obtain ⟨hx2, hf2⟩ := Kd.R_celln 0 HO.out ((a : Int) + x2) (by omega) (by omega)
      have hq1 := Kd.R_putn HO.out ((a : Int) + x2) (rd xs ((a : Int) + x3))
      have hq2 := Kd.R_putn hq1 ((a : Int) + x3) (rd xs ((a : Int) + x2))
      rw [e2] at hx2 hf2 hq1 hq2
      rw [e3] at hx3 hf3 hq2
      have HQ1 := Aside0.mk hq1; have HQ2 := Aside0.mk hq2
      have HG := Aside0.mk (Kd.R_bound HO.out)
      have HGg := Aside0.mk (show w0.heap.size ≤ g from (HG.out.1 g rfl).2.1)
      clear hq1 hq2 e2 e3 HG
      have p2 := eq_true c4
      have q2 := eq_true (show x2 < (m : Int) by omega)
      have p3 := eq_true (show 0 ≤ x3 by omega)
      have q3 := eq_true c5
      go_upto_region 3 with fail
      refine start_ (n := 16) (S := fun w' => w'.cell? ⟨g, a + x3.toNat, none⟩ = some (.int .i64 (rd xs ((a : Int) + x3))) ∧ w'.cell? ⟨g, a + x2.toNat, none⟩ = some (.int .i64 (rd xs ((a : Int) + x2)))) (ds := [13, 15]) #[false, false, false, false, false, false, false, false, false, false, false, false, false, false, false, false] (by kernel_rfl) rfl rfl ⟨hx3, hx2⟩ (fun hHeld => ?_)
      generalize wr.drew = wd at HO HB HQ1 HQ2 hf2 hf3 hx2 hx3 hHeld ⊢
      refine pure_ (i := 0) (N := some 14) (v := ?_) (a' := ?_) #[true, false, false, false, false, false, false, false, false, false, false, false, false, false, false, false] rfl rfl (by kernel_rfl) (fun _ _ _ h => h) (Or.inl ⟨by rfl, ?_⟩) ?_ ?_
      rotate_left; ·intro w'; go_simp; with_reducible rfl
      rotate_left; ·simp only [Act.put, sA_, sZ_, sS_, i64_w, i32_w]; rfl
      refine pure_ (i := 1) (N := some 15) (v := ?_) (a' := ?_) #[true, true, false, false, false, false, false, false, false, false, false, false, false, false, false, false] rfl rfl (by kernel_rfl) (fun _ _ _ h => h) (Or.inl ⟨by rfl, ?_⟩) ?_ ?_
      rotate_left; ·intro w'; go_simp; with_reducible rfl
      rotate_left; ·simp only [Act.put, sA_, sZ_, sS_, i64_w, i32_w]; rfl
      refine pure_ (i := 2) (N := some 16) (v := ?_) (a' := ?_) #[true, true, true, false, false, false, false, false, false, false, false, false, false, false, false, false] rfl rfl (by kernel_rfl) (fun _ _ _ h => h) (Or.inl ⟨by rfl, ?_⟩) ?_ ?_
      rotate_left; ·intro w'; go_simp; with_reducible rfl
      rotate_left; ·simp only [Act.put, sA_, sZ_, sS_, i64_w, i32_w]; rfl
      refine pure_ (i := 3) (N := some 17) (v := ?_) (a' := ?_) #[true, true, true, true, false, false, false, false, false, false, false, false, false, false, false, false] rfl rfl (by kernel_rfl) (fun _ _ _ h => h) (Or.inl ⟨by rfl, ?_⟩) ?_ ?_
      rotate_left; ·intro w'; go_simp; with_reducible rfl
      rotate_left; ·simp only [Act.put, sA_, sZ_, sS_, i64_w, i32_w]; rfl
      refine pure_ (i := 4) (N := some 18) (v := ?_) (a' := ?_) #[true, true, true, true, true, false, false, false, false, false, false, false, false, false, false, false] rfl rfl (by kernel_rfl) (fun _ _ _ h => h) (Or.inl ⟨by rfl, ?_⟩) ?_ ?_
      rotate_left; ·intro w'; go_simp; with_reducible rfl
      rotate_left; ·simp only [Act.put, sA_, sZ_, sS_, i64_w, i32_w]; rfl
      refine pure_ (i := 5) (N := some 19) (v := ?_) (a' := ?_) #[true, true, true, true, true, true, false, false, false, false, false, false, false, false, false, false] rfl rfl (by kernel_rfl) (fun _ _ _ h => h) (Or.inl ⟨by rfl, ?_⟩) ?_ ?_
      rotate_left; ·intro w'; go_simp; with_reducible rfl
      rotate_left; ·simp only [Act.put, sA_, sZ_, sS_, i64_w, i32_w]; rfl
      refine pure_ (i := 6) (N := some 20) (v := ?_) (a' := ?_) #[true, true, true, true, true, true, true, false, false, false, false, false, false, false, false, false] rfl rfl (by kernel_rfl) (fun _ _ _ h => h) (Or.inl ⟨by rfl, ?_⟩) ?_ ?_
      rotate_left; ·intro w'; go_simp; with_reducible rfl
      rotate_left; ·simp only [Act.put, sA_, sZ_, sS_, i64_w, i32_w]; rfl
      refine pure_ (i := 8) (N := some 22) (v := ?_) (a' := ?_) #[true, true, true, true, true, true, true, false, true, false, false, false, false, false, false, false] rfl rfl (by kernel_rfl) (fun _ _ _ h => h) (Or.inl ⟨by rfl, ?_⟩) ?_ ?_
      rotate_left; ·intro w'; go_simp; with_reducible rfl
      rotate_left; ·simp only [Act.put, sA_, sZ_, sS_, i64_w, i32_w]; rfl
      refine pure_ (i := 9) (N := some 23) (v := ?_) (a' := ?_) #[true, true, true, true, true, true, true, false, true, true, false, false, false, false, false, false] rfl rfl (by kernel_rfl) (fun _ _ _ h => h) (Or.inl ⟨by rfl, ?_⟩) ?_ ?_
      rotate_left; ·intro w'; go_simp; with_reducible rfl
      rotate_left; ·simp only [Act.put, sA_, sZ_, sS_, i64_w, i32_w]; rfl
      refine pure_ (i := 10) (N := some 24) (v := ?_) (a' := ?_) #[true, true, true, true, true, true, true, false, true, true, true, false, false, false, false, false] rfl rfl (by kernel_rfl) (fun _ _ _ h => h) (Or.inl ⟨by rfl, ?_⟩) ?_ ?_
      rotate_left; ·intro w'; go_simp; with_reducible rfl
      rotate_left; ·simp only [Act.put, sA_, sZ_, sS_, i64_w, i32_w]; rfl
      refine take_ (i := 7) (N := some 21) (v := ?_) (a' := ?_) #[true, true, true, true, true, true, true, true, true, true, true, false, false, false, false, false] rfl rfl (by kernel_rfl) (fun _ _ _ h => h) (Or.inl ⟨by rfl, ?_⟩) hHeld ?_ ?_
      rotate_left
      ·rintro w' ⟨s0, s1⟩; go_simp; with_reducible rfl
      rotate_left; ·simp only [Act.put, sA_, sZ_, sS_, i64_w, i32_w]; rfl
      refine take_ (i := 11) (N := some 25) (v := ?_) (a' := ?_) #[true, true, true, true, true, true, true, true, true, true, true, true, false, false, false, false] rfl rfl (by kernel_rfl) (fun _ _ _ h => h) (Or.inl ⟨by rfl, ?_⟩) hHeld ?_ ?_
      rotate_left
      ·rintro w' ⟨s0, s1⟩; go_simp; with_reducible rfl
      rotate_left; ·simp only [Act.put, sA_, sZ_, sS_, i64_w, i32_w]; rfl
      refine pure_ (i := 12) (N := some 26) (v := ?_) (a' := ?_) #[true, true, true, true, true, true, true, true, true, true, true, true, true, false, false, false] rfl rfl (by kernel_rfl) (fun _ _ _ h => h) (Or.inl ⟨by rfl, ?_⟩) ?_ ?_
      rotate_left; ·intro w'; go_simp; with_reducible rfl
      rotate_left; ·simp only [Act.put, sA_, sZ_, sS_, i64_w, i32_w]; rfl
      refine last_ (i := 13) (N := none) #[true, true, true, true, true, true, true, true, true, true, true, true, true, true, false, false] rfl rfl (by kernel_rfl) (by decide) (fun K hK => ?_)
      refine skip_ (w1 := ?_) (by rfl) rfl ?_ ?_
      rotate_left; ·go_simp; rfl
      refine hK.out _ _ ?_
      clear hK K
      refine pure_ (i := 14) (N := some 27) (v := ?_) (a' := ?_) #[true, true, true, true, true, true, true, true, true, true, true, true, true, true, true, false] rfl rfl (by kernel_rfl) (fun _ _ _ h => h) (Or.inl ⟨by rfl, ?_⟩) ?_ ?_
      rotate_left; ·intro w'; go_simp; with_reducible rfl
      rotate_left; ·simp only [Act.put, sA_, sZ_, sS_, i64_w, i32_w]; rfl
      refine last_ (i := 15) (N := none) #[true, true, true, true, true, true, true, true, true, true, true, true, true, true, true, true] rfl rfl (by kernel_rfl) (by decide) (fun K hK => ?_)
      refine skip_ (w1 := ?_) (by rfl) rfl ?_ ?_
      rotate_left; ·go_simp; rfl
      refine hK.out _ _ ?_
      clear hK K
      refine done_ (by kernel_rfl) ?_
      go_wp2
      go_roundg k1
      case measure => have := HK1.out; omega
      case rel => exact ⟨_, wrap64 (x2 + 1), wrap64 (x3 - 1), (by rw [Hw2.out]), (by rw [Hw3.out]), H', ⟨by have := HK1.out; omega⟩, ⟨by rw [Hw3.out]; omega⟩, HQ2, ⟨below_set (below_set HB.out HGg.out) HGg.out⟩⟩
     ·rw [if_neg c5] at H; cases H
    ·rw [if_neg c4] at H; cases H
   ·rw [if_neg c3] at H
    have c3b0 : decide (x2 < x3) = false := decide_eq_false c3
    obtain rfl := Option.some.inj H; clear H; go_wp2
    first | go_end0 | ((try simp only [Exit.inBlock, Exit.then]); refine bodyPost_ret (results_none rfl _ _ _) rfl ?_)
    exact ⟨rfl, by first | exact HO.out | (have h_ := HO.out; rw [hnl] at h_; exact h_), HB.out⟩
end Go.Proofs.Ytohjocajaanhaaa.P

/- The contract of swarf/tour.Improve (function 26), by hand: it reverses parts of a slice that it made. -/

namespace Go.Proofs.Ytohjocajaanhaaa.P
open Go.RowKit Go.Proofs.YtohjocajaanhaaaW.PrintWords Go.Proofs.YtohjocajaanhaaaW.PrintLast Go.Proofs.YtohjocajaanhaaaW.PrintMore
set_option linter.unusedVariables false
set_option linter.unusedSimpArgs false
mutual
def tour_imp.l0 : Nat → List S31 → List Int → Bool → Option (List Int)
 | 0, _, _, _ => none
 | k + 1, l, o, ag => if ag = true then tour_imp.l1 k l o false 1 else some o
def tour_imp.l1 : Nat → List S31 → List Int → Bool → Int → Option (List Int)
 | 0, _, _, _, _ => none
 | k + 1, l, o, ag, i => if i < (o.length : Int) then (if 0 ≤ i then tour_imp.l2 k l o ag i (wrap64 (i + 1)) else none) else tour_imp.l0 k l o ag
def tour_imp.l2 : Nat → List S31 → List Int → Bool → Int → Int → Option (List Int)
 | 0, _, _, _, _, _ => none
 | k + 1, l, o, ag, i, j => if j < (o.length : Int) then ((tour_gain.f l o i j).bind fun g => (if g > 0 then (if 0 ≤ i then (if i ≤ j then ((tour_rev.l0 i.toNat (j + 1 - i).toNat k o 0 (wrap64 (((j + 1 - i).toNat : Int) - 1))).bind fun o2 => tour_imp.l2 k l o2 true i (wrap64 (j + 1))) else none) else none) else tour_imp.l2 k l o ag i (wrap64 (j + 1)))) else tour_imp.l1 k l o ag (wrap64 (i + 1))
end
theorem tour_imp.mono_l : ∀ k, (∀ y0 y1 y2, LeO (tour_imp.l0 k y0 y1 y2) (tour_imp.l0 (k + 1) y0 y1 y2)) ∧ (∀ y0 y1 y2 y3, LeO (tour_imp.l1 k y0 y1 y2 y3) (tour_imp.l1 (k + 1) y0 y1 y2 y3)) ∧ (∀ y0 y1 y2 y3 y4, LeO (tour_imp.l2 k y0 y1 y2 y3 y4) (tour_imp.l2 (k + 1) y0 y1 y2 y3 y4))
 | 0 => ⟨fun _ _ _ r h => by simp [tour_imp.l0] at h, fun _ _ _ _ r h => by simp [tour_imp.l1] at h, fun _ _ _ _ _ r h => by simp [tour_imp.l2] at h⟩
 | k + 1 => by
  obtain ⟨ih0, ih1, ih2⟩ := tour_imp.mono_l k
  refine ⟨fun y0 y1 y2 => ?_, fun y0 y1 y2 y3 => ?_, fun y0 y1 y2 y3 y4 => ?_⟩
  ·unfold tour_imp.l0
   exact LeO.ite (ih1 _ _ _ _) (LeO.refl _)
  ·unfold tour_imp.l1
   exact LeO.ite (LeO.ite (ih2 _ _ _ _ _) (LeO.none _)) (ih0 _ _ _)
  ·unfold tour_imp.l2
   exact LeO.ite (LeO.bind (LeO.refl _) (fun _ => LeO.ite (LeO.ite (LeO.ite (LeO.bind (tour_rev.mono _ _ _ _ _ _) (fun _ => ih2 _ _ _ _ _)) (LeO.none _)) (LeO.none _)) (ih2 _ _ _ _ _))) (ih1 _ _ _ _)
def tour_Improve.f (k : Nat) (l : List S31) (o : List Int) : Option (List Int × Int) :=
 (tour_check.f k l 200).bind fun e => if e = 0 then ((tour_isOrder.f k o (l.length : Int)).bind fun b => if b = true then (if o.length < 1000 then ((tour_imp.l0 k l o true).bind fun r => some (r, 0)) else none) else some (([] : List Int), 1)) else some (([] : List Int), e)
theorem tour_Improve.mono : ∀ a0 a1 k, LeO (tour_Improve.f k a0 a1) (tour_Improve.f (k + 1) a0 a1) := by
 intro a0 a1 k
 unfold tour_Improve.f
 exact LeO.bind (tour_check.mono _ _ _) (fun _ => LeO.ite (LeO.bind (tour_isOrder.mono _ _ _) (fun _ => LeO.ite (LeO.ite (LeO.bind ((tour_imp.mono_l k).1 _ _ _) (fun _ => LeO.refl _)) (LeO.none _)) (LeO.refl _))) (LeO.refl _))
theorem run_part (g n c : Nat) (i j : Int) (h0 : 0 ≤ i) (h1 : i ≤ j) (h2 : j < (c : Int)) (W : World) :
  (Instr.slice 23 (.slice (some ⟨g, 0, none⟩) n c) (some (.int .i64 i)) (some (.int .i64 (j + 1))) none).run Try.prog W = .ok (.slice (some ⟨g, i.toNat, none⟩) (j + 1 - i).toNat (c - i.toNat)) W := by
 obtain ⟨i0, hi, _, hsz, _⟩ := info_parts info3
 have hel : Try.prog.elem 23 = 3 := by simp [Program.elem, Try.underlying23]
 have hu : Try.prog.underlying 23 = some (.slice (Try.prog.elem 23)) := by rw [hel]; exact Try.underlying23
 have hne : ¬ c = i.toNat := by omega
 have hm : (j + 1).toNat - i.toNat = (j + 1 - i).toNat := by omega
 rw [run_slice_lh W 23 (some ⟨g, 0, none⟩) n c hu .i64 .i64 i (j + 1) h0 (by omega) (by omega), hel]
 simp [sizeOf, typeInfo, hi, hsz, sliced, Result.andThen, hne, hm, Addr.add]
 intro _
 omega
theorem tour_gain.calls_n (A0 : Option Addr) (c0 : Nat) (l0 : List S31) (A1 : Option Addr) (n c1 : Nat) (l1 : List Int) (a2 a3 r : Int) (w : World) (hn : n = l1.length) (hr0 : Kd.C k31 w A0 l0.length l0) (hc0 : l0.length ≤ c0) (hr1 : Kd.C (Kd.int .i64) w A1 l1.length l1) (hc1 : l1.length ≤ c1) (h : tour_gain.f l0 l1 a2 a3 = some r) :
  Calls Try.prog 42 #[.slice A0 l0.length c0, .slice A1 n c1, .int .i64 a2, .int .i64 a3] w fun e w' => e = .returned (.int .i64 r) ∧ Below w.heap.size w w' := by
 subst hn
 exact tour_gain.calls A0 c0 l0 A1 c1 l1 a2 a3 r w hr0 hc0 hr1 hc1 h
set_option maxHeartbeats 8000000 in
set_option maxRecDepth 100000 in
theorem tour_Improve.calls (k : Nat) (A0 : Option Addr) (c0 : Nat) (l0 : List S31) (A1 : Option Addr) (c1 : Nat) (l1 : List Int) (r1 : List Int) (r2 : Int) (w : World) (hr0 : Kd.C k31 w A0 l0.length l0) (hc0 : l0.length ≤ c0) (hr1 : Kd.C (Kd.int .i64) w A1 l1.length l1) (hc1 : l1.length ≤ c1) (h : tour_Improve.f k l0 l1 = some (r1, r2)) :
  Calls Try.prog 26 #[.slice A0 l0.length c0, .slice A1 l1.length c1] w fun e w' => ∃ v0_ : Value, e = .returned (.tuple #[v0_, .int .i64 r2]) ∧ Kd.R (Kd.int .i64) 3 w' w.heap.size (fun _ => True) v0_ r1 ∧ Below w.heap.size w w' := by
 have HR0 := Aside0.mk hr0
 have HC0 := Aside0.mk hc0
 have HR1 := Aside0.mk hr1
 have HC1 := Aside0.mk hc1
 clear hr0 hc0 hr1 hc1
 unfold tour_Improve.f at h
 replace h := Option.bind_eq_some_iff.mp h
 obtain ⟨e0, AC0, h⟩ := h
 have AC := Aside0.mk AC0
 clear AC0
 by_cases c0' : e0 = 0
 ·rw [if_pos c0'] at h
  have c0b : (e0 != 0) = false := bne_eq_false_iff_eq.mpr c0'
  replace h := Option.bind_eq_some_iff.mp h
  obtain ⟨b, AO0, h⟩ := h
  have AO := Aside0.mk AO0; clear AO0 c0'
  by_cases hb : b = true
  ·subst hb; rw [if_pos rfl] at h
   by_cases hn : l1.length < 1000
   ·rw [if_pos hn] at h
    replace h := Option.bind_eq_some_iff.mp h
    obtain ⟨r, AI0, h⟩ := h
    have H' := Aside0.mk AI0
    simp only [Option.some.injEq, Prod.mk.injEq] at h
    obtain ⟨rfl, rfl⟩ := h
    clear AI0
    go_enter Try.func26, Try.ntmps26
    go_wp2_with (first | (go_at_call 28; go_must (refine (tour_check.calls k _ _ l0 200 e0 _ HR0.out HC0.out AC.out).mono ?_; rintro e w1 ⟨rfl, hb⟩; have HB := Aside0.mk hb; clear hb)) | (go_at_call 29; go_must (refine (tour_isOrder.calls k _ _ l1 (l0.length : Int) true _ (Kd.C_below HR1.out HB.out) HC1.out AO.out).mono ?_; rintro e w2 ⟨rfl, hb⟩; have HB' := Aside0.mk (below_step HB.out hb); clear HB hb; have HB := HB'; clear HB')) | (go_at_call 41; go_must (refine (slices_Clone_int_int.calls_of _ _ l1 _ (Kd.C_below HR1.out HB.out) (by omega)).mono ?_; rintro e w3 ⟨v7, rfl, ho, hb⟩; have HO := Aside0.mk (Kd.R_lower ho HB.out.size); have HB' := Aside0.mk (below_step HB.out hb); clear HB hb ho; have HB := HB'; clear HB'; obtain ⟨A7, c7, e7⟩ := Kd.R_slice HO.out; subst e7)))
    go_loopg [8] k (fun kq v8 w' => ∃ (o : List Int) (ag : Bool), v8 = .bool ag ∧ Aside0 (tour_imp.l0 kq l0 o ag = some r) ∧ Aside0 (kq ≤ k) ∧ Aside0 (Kd.R (Kd.int .i64) 3 w' w.heap.size (fun _ => True) (.slice A7 l1.length c7) o) ∧ Aside0 (Below w.heap.size w w'))
    case atStart => exact ⟨l1, true, rfl, H', ⟨Nat.le_refl _⟩, HO, HB⟩
    case round =>
     clear H' HO HB
     obtain ⟨o, ag, rfl, HA, HK1, HO, HB⟩ := hrel
     have Hol := Aside0.mk (Kd.R_reads' HO.out).1
     cases gk with
     | zero => exact absurd HA.out (by simp [tour_imp.l0])
     | succ k1 =>
      have H := HA.out
      clear HA
      simp only [tour_imp.l0] at H
      by_cases hag : ag = true
      ·subst hag; rw [if_pos rfl] at H; have H' := Aside0.mk H; clear H
       go_wp2_with fail
       go_loopg [8, 9] k1 (fun kq v8 v9 w' => ∃ (o : List Int) (ag : Bool) (i : Int), v8 = .bool ag ∧ v9 = .int .i64 i ∧ Aside0 (tour_imp.l1 kq l0 o ag i = some r) ∧ Aside0 (kq ≤ k1) ∧ Aside0 (Kd.R (Kd.int .i64) 3 w' w.heap.size (fun _ => True) (.slice A7 l1.length c7) o) ∧ Aside0 (Below w.heap.size w w'))
       case atStart => exact ⟨o, false, 1, rfl, rfl, H', ⟨Nat.le_refl _⟩, HO, HB⟩
       case round =>
        clear H' HO HB Hol
        obtain ⟨o, ag, i, rfl, rfl, HA, HK2, HO, HB⟩ := hrel
        have Hol := Aside0.mk (Kd.R_reads' HO.out).1
        cases gk with
        | zero => exact absurd HA.out (by simp [tour_imp.l1])
        | succ k2 =>
         have H := HA.out
         clear HA
         simp only [tour_imp.l1] at H
         by_cases ci : i < (o.length : Int)
         ·rw [if_pos ci] at H
          have cib : decide (i < (l1.length : Int)) = true := decide_eq_true (by rw [Hol.out]; exact ci)
          by_cases ci0 : 0 ≤ i
          ·rw [if_pos ci0] at H
           have Hwi := Aside0.mk (show wrap64 (i + 1) = i + 1 by have := Hol.out; unfold wrap64; omega)
           have hi1 : i < 1000 := by have := Hol.out; omega
           have H' := Aside0.mk H; clear H ci
           go_wp2_with fail
           go_loopg [8, 10] k2 (fun kq v8 v10 w' => ∃ (o : List Int) (ag : Bool) (j : Int), v8 = .bool ag ∧ v10 = .int .i64 j ∧ Aside0 (tour_imp.l2 kq l0 o ag i j = some r) ∧ Aside0 (kq ≤ k2) ∧ Aside0 (0 ≤ j) ∧ Aside0 (Kd.R (Kd.int .i64) 3 w' w.heap.size (fun _ => True) (.slice A7 l1.length c7) o) ∧ Aside0 (Below w.heap.size w w'))
           case atStart => exact ⟨o, ag, wrap64 (i + 1), rfl, (by rw [Hwi.out]), H', ⟨Nat.le_refl _⟩, ⟨by rw [Hwi.out]; omega⟩, HO, HB⟩
           case round =>
            clear H' HO HB Hol cib
            obtain ⟨o, ag, j, rfl, rfl, HA, HK3, HJ0, HO, HB⟩ := hrel
            have Hol := Aside0.mk (Kd.R_reads' HO.out).1
            cases gk with
            | zero => exact absurd HA.out (by simp [tour_imp.l2])
            | succ k3 =>
             have H := HA.out
             clear HA
             simp only [tour_imp.l2] at H
             by_cases cj : j < (o.length : Int)
             ·rw [if_pos cj] at H
              have cjb : decide (j < (l1.length : Int)) = true := decide_eq_true (by rw [Hol.out]; exact cj)
              have j0 : 0 ≤ j := HJ0.out
              have hj1 : j < 1000 := by have := Hol.out; omega
              have Hwj := Aside0.mk (show wrap64 (j + 1) = j + 1 by unfold wrap64; omega)
              replace H := Option.bind_eq_some_iff.mp H
              obtain ⟨gn, AG0, H⟩ := H
              have AG := Aside0.mk AG0; clear AG0
              by_cases cg : gn > 0
              ·rw [if_pos cg] at H
               have cgb : decide (0 < gn) = true := decide_eq_true cg
               rw [if_pos ci0] at H
               by_cases cij : i ≤ j
               ·rw [if_pos cij] at H; replace H := Option.bind_eq_some_iff.mp H
                obtain ⟨o2, AR0, H⟩ := H
                have AR := Aside0.mk AR0; have H' := Aside0.mk H; clear AR0 H cg
                obtain ⟨g7, co7, eo7, gb7, gl7, cl7, HG7⟩ := Kd.R_form HO.out (by have := Hol.out; omega)
                obtain ⟨rfl, hc7⟩ : A7 = some ⟨g7, 0, none⟩ ∧ c7 = co7 := by injection eo7 with e1 e2 e3; exact ⟨e1, e3⟩
                have hcap : l1.length ≤ c7 := (Kd.R_reads' HO.out).2.1
                have hq := run_part g7 l1.length c7 i j ci0 cij (by have := Hol.out; omega)
                clear eo7 gb7 gl7 cl7 HG7 hc7; have Hcj := Aside0.mk cj; have Hcap := Aside0.mk hcap; have Hcij := Aside0.mk cij; clear cj hcap cij
                go_wp2_with (first | (go_at_call 42; go_must (refine (tour_gain.calls_n A0 c0 l0 _ _ c7 o i j gn _ Hol.out (Kd.C_below HR0.out HB.out) HC0.out (Kd.R_reads' HO.out).2.2 (by rw [← Hol.out]; exact Hcap.out) AG.out).mono ?_; rintro e w1 ⟨rfl, hb⟩; have HO' := Aside0.mk (Kd.R_below HO.out hb); have HB' := Aside0.mk (below_step HB.out hb); clear HO HB hb; have HO := HO'; have HB := HB'; clear HO' HB')) | (go_at_call 43; go_must (refine (tour_rev.calls k3 i.toNat (j + 1 - i).toNat g7 l1.length c7 _ o o2 w _ HB.out HO.out (by have := Hcj.out; have := Hcij.out; omega) (by omega) AR.out).mono ?_; rintro e w2 ⟨rfl, ho, hb⟩; have HO' := Aside0.mk ho; have HB' := Aside0.mk hb; clear HO HB ho hb; have HO := HO'; have HB := HB'; clear HO' HB')))
                go_roundg k3
                case measure => have := HK1.out; have := HK2.out; have := HK3.out; omega
                case rel => exact ⟨o2, true, wrap64 (j + 1), rfl, (by rw [Hwj.out]), H', ⟨by have := HK3.out; omega⟩, ⟨by rw [Hwj.out]; omega⟩, HO, HB⟩
               ·rw [if_neg cij] at H; cases H
              ·rw [if_neg cg] at H
               have cgb : decide (0 < gn) = false := decide_eq_false cg
               have H' := Aside0.mk H
               have hcap : l1.length ≤ c7 := (Kd.R_reads' HO.out).2.1
               have Hcap := Aside0.mk hcap; clear H cg cj hcap
               go_wp2_with (go_at_call 42; go_must (refine (tour_gain.calls_n A0 c0 l0 _ _ c7 o i j gn _ Hol.out (Kd.C_below HR0.out HB.out) HC0.out (Kd.R_reads' HO.out).2.2 (by rw [← Hol.out]; exact Hcap.out) AG.out).mono ?_; rintro e w1 ⟨rfl, hb⟩; have HO' := Aside0.mk (Kd.R_below HO.out hb); have HB' := Aside0.mk (below_step HB.out hb); clear HO HB hb; have HO := HO'; have HB := HB'; clear HO' HB'))
               go_roundg k3
               case measure => have := HK1.out; have := HK2.out; have := HK3.out; omega
               case rel => exact ⟨o, ag, wrap64 (j + 1), rfl, (by rw [Hwj.out]), H', ⟨by have := HK3.out; omega⟩, ⟨by rw [Hwj.out]; omega⟩, HO, HB⟩
             ·rw [if_neg cj] at H
              have cjb : decide (j < (l1.length : Int)) = false := decide_eq_false (by rw [Hol.out]; exact cj)
              have H' := Aside0.mk H; clear H cj
              go_wp2_with fail
              go_roundg k3
              case measure => have := HK1.out; have := HK2.out; have := HK3.out; omega
              case rel => exact ⟨o, ag, wrap64 (i + 1), rfl, (by rw [Hwi.out]), H', ⟨by have := HK2.out; have := HK3.out; omega⟩, HO, HB⟩
          ·rw [if_neg ci0] at H; cases H
         ·rw [if_neg ci] at H
          have cib : decide (i < (l1.length : Int)) = false := decide_eq_false (by rw [Hol.out]; exact ci)
          have H' := Aside0.mk H; clear H ci
          go_wp2_with fail
          go_roundg k2
          case measure => have := HK1.out; have := HK2.out; omega
          case rel => exact ⟨o, ag, rfl, H', ⟨by have := HK1.out; have := HK2.out; omega⟩, HO, HB⟩
      ·rw [if_neg hag] at H
       replace hag := Bool.eq_false_iff.mpr hag
       subst hag; obtain rfl := Option.some.inj H; clear H
       go_wp2_with fail
       go_ret2
       exact ⟨_, rfl, HO.out, HB.out⟩
   ·rw [if_neg hn] at h; cases h
  ·replace hb := Bool.eq_false_iff.mpr hb
   subst hb; rw [if_neg (by decide)] at h
   simp only [Option.some.injEq, Prod.mk.injEq] at h
   obtain ⟨rfl, rfl⟩ := h
   go_enter Try.func26, Try.ntmps26
   go_wp2_with (first | (go_at_call 28; go_must (refine (tour_check.calls k _ _ l0 200 e0 _ HR0.out HC0.out AC.out).mono ?_; rintro e w1 ⟨rfl, hb⟩; have HB := Aside0.mk hb; clear hb)) | (go_at_call 29; go_must (refine (tour_isOrder.calls k _ _ l1 (l0.length : Int) false _ (Kd.C_below HR1.out HB.out) HC1.out AO.out).mono ?_; rintro e w2 ⟨rfl, hb⟩; have HB' := Aside0.mk (below_step HB.out hb); clear HB hb; have HB := HB'; clear HB')))
   go_ret2
   exact ⟨_, rfl, Kd.R_nil _ _ _ _ _, HB.out⟩
 ·rw [if_neg c0'] at h
  have c0b : (e0 != 0) = true := bne_iff_ne.mpr c0'
  simp only [Option.some.injEq, Prod.mk.injEq] at h
  obtain ⟨rfl, rfl⟩ := h
  clear c0'
  go_enter Try.func26, Try.ntmps26
  go_wp2_with (go_at_call 28; go_must (refine (tour_check.calls k _ _ l0 200 e0 _ HR0.out HC0.out AC.out).mono ?_; rintro e w1 ⟨rfl, hb⟩; have HB := Aside0.mk hb; clear hb))
  go_ret2
  exact ⟨_, rfl, Kd.R_nil _ _ _ _ _, HB.out⟩
end Go.Proofs.Ytohjocajaanhaaa.P

-- PRINTED by print.py (a twelfth state) out of the translation. Not trusted: Lean checks it.

namespace Go.Proofs.Ytohjocajaanhaaa.P
open Go.RowKit Go.Proofs.YtohjocajaanhaaaW.PrintWords Go.Proofs.YtohjocajaanhaaaW.PrintLast Go.Proofs.YtohjocajaanhaaaW.PrintMore
attribute [local go_sem] max2_int min2_int max_two min_two max_three min_three max_four min_four   -- for this text's walks alone
set_option linter.unusedVariables false
set_option linter.unusedSimpArgs false

/-! ### swarflaw38_TourImprove: function 8 -/
mutual
def swarflaw38_TourImprove.j0 : Nat → List (S31) → List Int → Bool → Option (Bool)
 | 0, _, _, _ => none
 | k + 1, x0, x1, x34 => if x34 = true then ((swarflaw38_awake.f k).bind fun t360 => (some t360)) else ((swarfref38_Length.f k x0 x1).bind fun bt361 => (if (x0.length : Int) > 12 then (swarflaw38_TourImprove.j1 k x0 x1 bt361.1 bt361.2 (bt361.2 == 0)) else (swarflaw38_TourImprove.j1 k x0 x1 bt361.1 bt361.2 false)))
def swarflaw38_TourImprove.j1 : Nat → List (S31) → List Int → Int → Int → Bool → Option (Bool)
 | 0, _, _, _, _, _ => none
 | k + 1, x0, x1, x5, x6, x48 => if x48 = true then (some true) else ((tour_Improve.f k x0 x1).bind fun bt363 => (if x6 = 0 then ((swarfref38_Length.f k x0 bt363.1).bind fun bt367 => (if bt363.2 = 0 then (if bt367.2 = 0 then (if bt367.1 ≤ x5 then ((swarfref38_Local.f k x0 bt363.1).bind fun t369 => (some t369)) else (some false)) else (some false)) else (some false))) else (if bt363.2 = x6 then (some ((bt363.1.length : Int) == 0)) else (some false))))
end
def swarflaw38_TourImprove.f (k : Nat) (l0 : List (S31)) (l1 : List Int) : Option (Bool) := (swarflaw38_awake.f k).bind fun t358 => (if t358 = true then ((swarflaw38_few.f l0 12).bind fun t359 => (if t359 = true then (if (l1.length : Int) > 205 then (swarflaw38_TourImprove.j0 k l0 l1 true) else (if (l0.length : Int) > 200 then (swarflaw38_TourImprove.j0 k l0 l1 ((l1.length : Int) != (l0.length : Int))) else (swarflaw38_TourImprove.j0 k l0 l1 false))) else (swarflaw38_TourImprove.j0 k l0 l1 true))) else (swarflaw38_TourImprove.j0 k l0 l1 true))
theorem swarflaw38_TourImprove.mono_l : ∀ k, (∀ y0 y1 y2, LeO (swarflaw38_TourImprove.j0 k y0 y1 y2) (swarflaw38_TourImprove.j0 (k + 1) y0 y1 y2)) ∧ (∀ y0 y1 y2 y3 y4, LeO (swarflaw38_TourImprove.j1 k y0 y1 y2 y3 y4) (swarflaw38_TourImprove.j1 (k + 1) y0 y1 y2 y3 y4))
 | 0 => ⟨fun _ _ _ r h => by simp [swarflaw38_TourImprove.j0] at h, fun _ _ _ _ _ r h => by simp [swarflaw38_TourImprove.j1] at h⟩
 | k + 1 => by
  obtain ⟨ih0, ih1⟩ := swarflaw38_TourImprove.mono_l k
  refine ⟨?_, ?_⟩
  ·intro y0 y1 y2
   unfold swarflaw38_TourImprove.j0
   repeat' first
   | (with_reducible exact ih0 _ _ _)
   | (with_reducible exact ih1 _ _ _ _ _)
   | (with_reducible exact swarflaw38_awake.mono _)
   | (with_reducible exact swarfref38_Length.mono _ _ _)
   | (with_reducible exact swarfref38_Local.mono _ _ _)
   | (with_reducible exact tour_Improve.mono _ _ _)
   | (with_reducible exact LeO.refl _)
   | (with_reducible exact LeO.none _)
   | (with_reducible refine LeO.ite ?_ ?_)
   | (with_reducible refine LeO.bind ?_ (fun _ => ?_))
   | exact ih0 _ _ _
   | exact ih1 _ _ _ _ _
   | exact swarflaw38_awake.mono _
   | exact swarfref38_Length.mono _ _ _
   | exact swarfref38_Local.mono _ _ _
   | exact tour_Improve.mono _ _ _
   | exact LeO.none _
   | refine LeO.ite ?_ ?_
   | refine LeO.bind ?_ (fun _ => ?_)
  ·intro y0 y1 y2 y3 y4
   unfold swarflaw38_TourImprove.j1
   repeat' first
   | (with_reducible exact ih0 _ _ _)
   | (with_reducible exact ih1 _ _ _ _ _)
   | (with_reducible exact swarflaw38_awake.mono _)
   | (with_reducible exact swarfref38_Length.mono _ _ _)
   | (with_reducible exact swarfref38_Local.mono _ _ _)
   | (with_reducible exact tour_Improve.mono _ _ _)
   | (with_reducible exact LeO.refl _)
   | (with_reducible exact LeO.none _)
   | (with_reducible refine LeO.ite ?_ ?_)
   | (with_reducible refine LeO.bind ?_ (fun _ => ?_))
   | exact ih0 _ _ _
   | exact ih1 _ _ _ _ _
   | exact swarflaw38_awake.mono _
   | exact swarfref38_Length.mono _ _ _
   | exact swarfref38_Local.mono _ _ _
   | exact tour_Improve.mono _ _ _
   | exact LeO.none _
   | refine LeO.ite ?_ ?_
   | refine LeO.bind ?_ (fun _ => ?_)
theorem swarflaw38_TourImprove.mono : ∀ a0 a1 k, LeO (swarflaw38_TourImprove.f k a0 a1) (swarflaw38_TourImprove.f (k + 1) a0 a1) := by
 intro a0 a1 k
 obtain ⟨ih0, ih1⟩ := swarflaw38_TourImprove.mono_l k
 unfold swarflaw38_TourImprove.f
 repeat' first
   | (with_reducible exact ih0 _ _ _)
   | (with_reducible exact ih1 _ _ _ _ _)
   | (with_reducible exact swarflaw38_awake.mono _)
   | (with_reducible exact swarfref38_Length.mono _ _ _)
   | (with_reducible exact swarfref38_Local.mono _ _ _)
   | (with_reducible exact tour_Improve.mono _ _ _)
   | (with_reducible exact LeO.refl _)
   | (with_reducible exact LeO.none _)
   | (with_reducible refine LeO.ite ?_ ?_)
   | (with_reducible refine LeO.bind ?_ (fun _ => ?_))
   | exact ih0 _ _ _
   | exact ih1 _ _ _ _ _
   | exact swarflaw38_awake.mono _
   | exact swarfref38_Length.mono _ _ _
   | exact swarfref38_Local.mono _ _ _
   | exact tour_Improve.mono _ _ _
   | exact LeO.none _
   | refine LeO.ite ?_ ?_
   | refine LeO.bind ?_ (fun _ => ?_)
set_option maxHeartbeats 8000000 in
set_option maxRecDepth 100000 in
theorem swarflaw38_TourImprove.calls (k : Nat) (A0 : Option Addr) (c0 : Nat) (l0 : List (S31)) (A1 : Option Addr) (c1 : Nat) (l1 : List Int) (r : Bool) (w : World) (hr0 : Kd.C k31 w A0 l0.length l0) (hc0 : l0.length ≤ c0) (hr1 : Kd.C (Kd.int .i64) w A1 l1.length l1) (hc1 : l1.length ≤ c1) (h : swarflaw38_TourImprove.f k l0 l1 = some r) (hr : r = true) :
  Calls Try.prog 8 #[.slice A0 l0.length c0, .slice A1 l1.length c1] w fun e w' => e = .returned (.bool r) ∧ Below w.heap.size w w' := by
 have HRT := Aside0.mk hr
 clear hr
 have HR0 := Aside0.mk hr0
 have HC0 := Aside0.mk hc0
 clear hr0 hc0
 have HR1 := Aside0.mk hr1
 have HC1 := Aside0.mk hc1
 clear hr1 hc1
 have HB := Aside0.mk (Below.refl w.heap.size w)
 have H : ((swarflaw38_awake.f k).bind fun t358 => (if t358 = true then ((swarflaw38_few.f l0 12).bind fun t359 => (if t359 = true then (if (l1.length : Int) > 205 then (swarflaw38_TourImprove.j0 k l0 l1 true) else (if (l0.length : Int) > 200 then (swarflaw38_TourImprove.j0 k l0 l1 ((l1.length : Int) != (l0.length : Int))) else (swarflaw38_TourImprove.j0 k l0 l1 false))) else (swarflaw38_TourImprove.j0 k l0 l1 true))) else (swarflaw38_TourImprove.j0 k l0 l1 true))) = some r := h
 clear h
 have HC3 := Aside0.mk H
 clear H
 go_enter Try.func8, Try.ntmps8
 go_upto_region 1 with (fail)
 go_cut [34] (fun v34 wc => ∃ (kq : Nat) (x34_2 : Bool), v34 = .bool x34_2 ∧ Aside0 (swarflaw38_TourImprove.j0 kq l0 l1 x34_2 = some r) ∧ Aside0 (kq ≤ k) ∧ Aside0 (Below w.heap.size w wc))
 case first =>
  have H := HC3.out
  clear HC3; replace H := Option.bind_eq_some_iff.mp H
  obtain ⟨t358, A40, H⟩ := H
  replace H : (if t358 = true then ((swarflaw38_few.f l0 12).bind fun t359 => (if t359 = true then (if (l1.length : Int) > 205 then (swarflaw38_TourImprove.j0 k l0 l1 true) else (if (l0.length : Int) > 200 then (swarflaw38_TourImprove.j0 k l0 l1 ((l1.length : Int) != (l0.length : Int))) else (swarflaw38_TourImprove.j0 k l0 l1 false))) else (swarflaw38_TourImprove.j0 k l0 l1 true))) else (swarflaw38_TourImprove.j0 k l0 l1 true)) = some r := H
  have A4 := Aside0.mk A40; clear A40
  by_cases c5 : t358 = true
  ·subst c5
   have H1 : ((swarflaw38_few.f l0 12).bind fun t359 => (if t359 = true then (if (l1.length : Int) > 205 then (swarflaw38_TourImprove.j0 k l0 l1 true) else (if (l0.length : Int) > 200 then (swarflaw38_TourImprove.j0 k l0 l1 ((l1.length : Int) != (l0.length : Int))) else (swarflaw38_TourImprove.j0 k l0 l1 false))) else (swarflaw38_TourImprove.j0 k l0 l1 true))) = some r := by rw [if_pos rfl] at H; exact H
   clear H; have H := H1; clear H1; replace H := Option.bind_eq_some_iff.mp H
   obtain ⟨t359, A60, H⟩ := H
   replace H : (if t359 = true then (if (l1.length : Int) > 205 then (swarflaw38_TourImprove.j0 k l0 l1 true) else (if (l0.length : Int) > 200 then (swarflaw38_TourImprove.j0 k l0 l1 ((l1.length : Int) != (l0.length : Int))) else (swarflaw38_TourImprove.j0 k l0 l1 false))) else (swarflaw38_TourImprove.j0 k l0 l1 true)) = some r := H
   have A6 := Aside0.mk A60; clear A60
   by_cases c7 : t359 = true
   ·subst c7
    have H1 : (if (l1.length : Int) > 205 then (swarflaw38_TourImprove.j0 k l0 l1 true) else (if (l0.length : Int) > 200 then (swarflaw38_TourImprove.j0 k l0 l1 ((l1.length : Int) != (l0.length : Int))) else (swarflaw38_TourImprove.j0 k l0 l1 false))) = some r := by rw [if_pos rfl] at H; exact H
    clear H; have H := H1; clear H1
    by_cases c8 : (l1.length : Int) > 205
    ·rw [if_pos c8] at H
     have c8b0 : decide (205 < (l1.length : Int)) = true := decide_eq_true c8
     have c8b1 : decide (205 < l1.length) = true := decide_eq_true (by omega)
     clear c8
     (first | rw [c8b0] | (simp only [i64_w, i32_w]; rw [c8b0]) | skip)
     have H' := Aside0.mk H; clear H
     go_wp2_with (first | ((with_reducible refine gate_callee (f := 10) rfl ?_); refine goesL_ (some 11) rfl rfl Try.func10 (by kernel_rfl) rfl #[] rfl (by (try simp only [List.map_toArray, List.map_cons, List.map_nil]); first | done | rfl | (simp only [List.length_drop, List.length_take]; rfl)) ?_; (with_reducible refine (swarflaw38_awake.calls k  true _ A4.out).mono ?_); rintro e w9 ⟨rfl, hb⟩; refine ⟨_, rfl, ?_⟩; have n0_ := Aside0.mk (below_step (by repeat (first | (with_reducible first | exact HB.out | apply below_alloc | apply pw_below_drewN | apply below_drew1) | exact HB.out)) hb); clear HB; have HB := n0_; clear n0_; (try clear hb); (try clear hb2); (try clear hk); (try clear hi)) | (go_at_call 11; (with_reducible refine (swarflaw38_few.calls _ _ l0 12 true _ ?side1 ?side2 A6.out).mono ?_); (case side1 => repeat (first | exact (Kd.C_below HR0.out HB.out) | (with_reducible refine Kd.C_alloc ?_ _) | (with_reducible refine Kd.C_drewN ?_ _) | (with_reducible refine Kd.C_drew ?_))); (case side2 => exact HC0.out); rintro e w' ⟨rfl, ⟨nd, rfl⟩⟩))
     go_meet
     case rel => exact ⟨_, (true), (by first | rfl | (simp; done) | (simp [*]; done)), H', ⟨by first | omega | exact Nat.le_refl _⟩, ⟨by repeat (first | (with_reducible first | exact HB.out | apply below_alloc | apply pw_below_drewN | apply below_drew1) | exact HB.out)⟩⟩
    ·rw [if_neg c8] at H
     have c8b0 : decide (205 < (l1.length : Int)) = false := decide_eq_false c8
     have c8b1 : decide (205 < l1.length) = false := decide_eq_false (by omega)
     clear c8
     (first | rw [c8b0] | (simp only [i64_w, i32_w]; rw [c8b0]) | skip)
     by_cases c10 : (l0.length : Int) > 200
     ·rw [if_pos c10] at H
      have c10b0 : decide (200 < (l0.length : Int)) = true := decide_eq_true c10
      have c10b1 : decide (200 < l0.length) = true := decide_eq_true (by omega)
      clear c10; have H' := Aside0.mk H; clear H
      go_wp2_with (first | ((with_reducible refine gate_callee (f := 10) rfl ?_); refine goesL_ (some 11) rfl rfl Try.func10 (by kernel_rfl) rfl #[] rfl (by (try simp only [List.map_toArray, List.map_cons, List.map_nil]); first | done | rfl | (simp only [List.length_drop, List.length_take]; rfl)) ?_; (with_reducible refine (swarflaw38_awake.calls k  true _ A4.out).mono ?_); rintro e w11 ⟨rfl, hb⟩; refine ⟨_, rfl, ?_⟩; have n0_ := Aside0.mk (below_step (by repeat (first | (with_reducible first | exact HB.out | apply below_alloc | apply pw_below_drewN | apply below_drew1) | exact HB.out)) hb); clear HB; have HB := n0_; clear n0_; (try clear hb); (try clear hb2); (try clear hk); (try clear hi)) | (go_at_call 11; (with_reducible refine (swarflaw38_few.calls _ _ l0 12 true _ ?side1 ?side2 A6.out).mono ?_); (case side1 => repeat (first | exact (Kd.C_below HR0.out HB.out) | (with_reducible refine Kd.C_alloc ?_ _) | (with_reducible refine Kd.C_drewN ?_ _) | (with_reducible refine Kd.C_drew ?_))); (case side2 => exact HC0.out); rintro e w' ⟨rfl, ⟨nd, rfl⟩⟩))
      go_meet
      case rel => exact ⟨_, (((l1.length : Int) != (l0.length : Int))), (by first | rfl | (simp; done) | (simp [*]; done)), H', ⟨by first | omega | exact Nat.le_refl _⟩, ⟨by repeat (first | (with_reducible first | exact HB.out | apply below_alloc | apply pw_below_drewN | apply below_drew1) | exact HB.out)⟩⟩
     ·rw [if_neg c10] at H
      have c10b0 : decide (200 < (l0.length : Int)) = false := decide_eq_false c10
      have c10b1 : decide (200 < l0.length) = false := decide_eq_false (by omega)
      clear c10; have H' := Aside0.mk H; clear H
      go_wp2_with (first | ((with_reducible refine gate_callee (f := 10) rfl ?_); refine goesL_ (some 11) rfl rfl Try.func10 (by kernel_rfl) rfl #[] rfl (by (try simp only [List.map_toArray, List.map_cons, List.map_nil]); first | done | rfl | (simp only [List.length_drop, List.length_take]; rfl)) ?_; (with_reducible refine (swarflaw38_awake.calls k  true _ A4.out).mono ?_); rintro e w12 ⟨rfl, hb⟩; refine ⟨_, rfl, ?_⟩; have n0_ := Aside0.mk (below_step (by repeat (first | (with_reducible first | exact HB.out | apply below_alloc | apply pw_below_drewN | apply below_drew1) | exact HB.out)) hb); clear HB; have HB := n0_; clear n0_; (try clear hb); (try clear hb2); (try clear hk); (try clear hi)) | (go_at_call 11; (with_reducible refine (swarflaw38_few.calls _ _ l0 12 true _ ?side1 ?side2 A6.out).mono ?_); (case side1 => repeat (first | exact (Kd.C_below HR0.out HB.out) | (with_reducible refine Kd.C_alloc ?_ _) | (with_reducible refine Kd.C_drewN ?_ _) | (with_reducible refine Kd.C_drew ?_))); (case side2 => exact HC0.out); rintro e w' ⟨rfl, ⟨nd, rfl⟩⟩))
      go_meet
      case rel => exact ⟨_, (false), (by first | rfl | (simp; done) | (simp [*]; done)), H', ⟨by first | omega | exact Nat.le_refl _⟩, ⟨by repeat (first | (with_reducible first | exact HB.out | apply below_alloc | apply pw_below_drewN | apply below_drew1) | exact HB.out)⟩⟩
   ·replace c7 := Bool.eq_false_iff.mpr c7
    subst c7
    have H1 : (swarflaw38_TourImprove.j0 k l0 l1 true) = some r := by rw [if_neg (show ¬ (false = true) by decide)] at H; exact H
    clear H; have H := H1; clear H1; have H' := Aside0.mk H; clear H
    go_wp2_with (first | ((with_reducible refine gate_callee (f := 10) rfl ?_); refine goesL_ (some 11) rfl rfl Try.func10 (by kernel_rfl) rfl #[] rfl (by (try simp only [List.map_toArray, List.map_cons, List.map_nil]); first | done | rfl | (simp only [List.length_drop, List.length_take]; rfl)) ?_; (with_reducible refine (swarflaw38_awake.calls k  true _ A4.out).mono ?_); rintro e w13 ⟨rfl, hb⟩; refine ⟨_, rfl, ?_⟩; have n0_ := Aside0.mk (below_step (by repeat (first | (with_reducible first | exact HB.out | apply below_alloc | apply pw_below_drewN | apply below_drew1) | exact HB.out)) hb); clear HB; have HB := n0_; clear n0_; (try clear hb); (try clear hb2); (try clear hk); (try clear hi)) | (go_at_call 11; (with_reducible refine (swarflaw38_few.calls _ _ l0 12 false _ ?side1 ?side2 A6.out).mono ?_); (case side1 => repeat (first | exact (Kd.C_below HR0.out HB.out) | (with_reducible refine Kd.C_alloc ?_ _) | (with_reducible refine Kd.C_drewN ?_ _) | (with_reducible refine Kd.C_drew ?_))); (case side2 => exact HC0.out); rintro e w' ⟨rfl, ⟨nd, rfl⟩⟩))
    go_meet
    case rel => exact ⟨_, (true), (by first | rfl | (simp; done) | (simp [*]; done)), H', ⟨by first | omega | exact Nat.le_refl _⟩, ⟨by repeat (first | (with_reducible first | exact HB.out | apply below_alloc | apply pw_below_drewN | apply below_drew1) | exact HB.out)⟩⟩
  ·replace c5 := Bool.eq_false_iff.mpr c5
   subst c5
   have H1 : (swarflaw38_TourImprove.j0 k l0 l1 true) = some r := by rw [if_neg (show ¬ (false = true) by decide)] at H; exact H
   clear H; have H := H1; clear H1; have H' := Aside0.mk H; clear H
   go_wp2_with (first | ((with_reducible refine gate_callee (f := 10) rfl ?_); refine goesL_ (some 11) rfl rfl Try.func10 (by kernel_rfl) rfl #[] rfl (by (try simp only [List.map_toArray, List.map_cons, List.map_nil]); first | done | rfl | (simp only [List.length_drop, List.length_take]; rfl)) ?_; (with_reducible refine (swarflaw38_awake.calls k  false _ A4.out).mono ?_); rintro e w14 ⟨rfl, hb⟩; refine ⟨_, rfl, ?_⟩; have n0_ := Aside0.mk (below_step (by repeat (first | (with_reducible first | exact HB.out | apply below_alloc | apply pw_below_drewN | apply below_drew1) | exact HB.out)) hb); clear HB; have HB := n0_; clear n0_; (try clear hb); (try clear hb2); (try clear hk); (try clear hi)))
   go_meet
   case rel => exact ⟨_, (true), (by first | rfl | (simp; done) | (simp [*]; done)), H', ⟨by first | omega | exact Nat.le_refl _⟩, ⟨by repeat (first | (with_reducible first | exact HB.out | apply below_alloc | apply pw_below_drewN | apply below_drew1) | exact HB.out)⟩⟩
 case rest =>
  clear HC3; try clear c1; try clear p2; try clear c5; try clear c7; try clear c8; try clear c8b0; try clear c8b1; try clear c10; try clear c10b0; try clear c10b1
  obtain ⟨kq, x34_2, rfl, HA, HJ2, HB⟩ := hcut
  cases kq with
  | zero => exact absurd HA.out (by simp [swarflaw38_TourImprove.j0])
  | succ kj2 =>
   have H := HA.out
   clear HA
   simp only [swarflaw38_TourImprove.j0] at H
   by_cases c15 : x34_2 = true
   ·subst c15
    have H1 : ((swarflaw38_awake.f kj2).bind fun t360 => (some t360)) = some r := by rw [if_pos rfl] at H; exact H
    clear H; have H := H1; clear H1; replace H := Option.bind_eq_some_iff.mp H
    obtain ⟨t360, A160, H⟩ := H
    replace H : (some t360) = some r := H
    have A16 := Aside0.mk A160; clear A160; obtain rfl := Option.some.inj H
    go_wp2_with (first | ((with_reducible refine gate_callee (f := 10) rfl ?_); refine goesL_ (some 35) rfl rfl Try.func10 (by kernel_rfl) rfl #[] rfl (by (try simp only [List.map_toArray, List.map_cons, List.map_nil]); first | done | rfl | (simp only [List.length_drop, List.length_take]; rfl)) ?_; (with_reducible refine (swarflaw38_awake.calls kj2  t360 _ A16.out).mono ?_); rintro e w17 ⟨rfl, hb⟩; refine ⟨_, rfl, ?_⟩; have n0_ := Aside0.mk (below_step (by repeat (first | (with_reducible first | exact HB.out | apply below_alloc | apply pw_below_drewN | apply below_drew1) | exact HB.out)) hb); clear HB; have HB := n0_; clear n0_; (try clear hb); (try clear hb2); (try clear hk); (try clear hi)))
    go_ret
    exact ⟨by first | rfl | (simp [errW_none, errW_some] <;> rfl) | (simp [*, errW_none, errW_some] <;> rfl), by repeat (first | (with_reducible first | exact HB.out | apply below_alloc | apply pw_below_drewN | apply below_drew1) | exact HB.out)⟩
   ·replace c15 := Bool.eq_false_iff.mpr c15
    subst c15
    have H1 : ((swarfref38_Length.f kj2 l0 l1).bind fun bt361 => (if (l0.length : Int) > 12 then (swarflaw38_TourImprove.j1 kj2 l0 l1 bt361.1 bt361.2 (bt361.2 == 0)) else (swarflaw38_TourImprove.j1 kj2 l0 l1 bt361.1 bt361.2 false))) = some r := by rw [if_neg (show ¬ (false = true) by decide)] at H; exact H
    clear H; have H := H1; clear H1; replace H := Option.bind_eq_some_iff.mp H
    obtain ⟨⟨t361, t362⟩, A180, H⟩ := H
    replace H : (if (l0.length : Int) > 12 then (swarflaw38_TourImprove.j1 kj2 l0 l1 t361 t362 (t362 == 0)) else (swarflaw38_TourImprove.j1 kj2 l0 l1 t361 t362 false)) = some r := H
    have A18 := Aside0.mk A180; clear A180; have HC19 := Aside0.mk H; clear H
    go_upto_region 4 with (first | ((with_reducible refine gate_callee (f := 13) rfl ?_); refine goesL_ (some 39) rfl rfl Try.func13 (by kernel_rfl) rfl #[.slice A0 l0.length c0, .slice A1 l1.length c1] rfl (by (try simp only [List.map_toArray, List.map_cons, List.map_nil]); first | done | rfl | (simp only [List.length_drop, List.length_take]; rfl)) ?_; (with_reducible refine (swarfref38_Length.calls kj2 _ _ l0 _ _ l1 t361 t362 _ ?side1 ?side2 ?side3 ?side4 A18.out).mono ?_); (case side1 => repeat (first | exact (Kd.C_below HR0.out HB.out) | (with_reducible refine Kd.C_alloc ?_ _) | (with_reducible refine Kd.C_drewN ?_ _) | (with_reducible refine Kd.C_drew ?_))); (case side2 => exact HC0.out); (case side3 => repeat (first | exact (Kd.C_below HR1.out HB.out) | (with_reducible refine Kd.C_alloc ?_ _) | (with_reducible refine Kd.C_drewN ?_ _) | (with_reducible refine Kd.C_drew ?_))); (case side4 => exact HC1.out); rintro e w20 ⟨rfl, hb⟩; refine ⟨_, rfl, ?_⟩; have n0_ := Aside0.mk (below_step (by repeat (first | (with_reducible first | exact HB.out | apply below_alloc | apply pw_below_drewN | apply below_drew1) | exact HB.out)) hb); clear HB; have HB := n0_; clear n0_; (try clear hb); (try clear hb2); (try clear hk); (try clear hi)))
    (try simp only [Act.put, sA_, sZ_, sS_])
    go_cut [48] (fun v48 wc => ∃ (kq : Nat) (x48_18 : Bool), v48 = .bool x48_18 ∧ Aside0 (swarflaw38_TourImprove.j1 kq l0 l1 t361 t362 x48_18 = some r) ∧ Aside0 (kq ≤ kj2) ∧ Aside0 (Below w.heap.size w wc))
    case first =>
     have H := HC19.out
     clear HC19
     by_cases c21 : (l0.length : Int) > 12
     ·rw [if_pos c21] at H
      have c21b0 : decide (12 < (l0.length : Int)) = true := decide_eq_true c21
      have c21b1 : decide (12 < l0.length) = true := decide_eq_true (by omega)
      clear c21
      (first | rw [c21b0] | (simp only [i64_w, i32_w]; rw [c21b0]) | skip)
      have H' := Aside0.mk H; clear H; go_wp2
      go_meet
      case rel => exact ⟨_, ((t362 == 0)), (by first | rfl | (simp; done) | (simp [*]; done)), H', ⟨by have := HJ2.out; first | omega | exact Nat.le_refl _⟩, ⟨by repeat (first | (with_reducible first | exact HB.out | apply below_alloc | apply pw_below_drewN | apply below_drew1) | exact HB.out)⟩⟩
     ·rw [if_neg c21] at H
      have c21b0 : decide (12 < (l0.length : Int)) = false := decide_eq_false c21
      have c21b1 : decide (12 < l0.length) = false := decide_eq_false (by omega)
      clear c21
      (first | rw [c21b0] | (simp only [i64_w, i32_w]; rw [c21b0]) | skip)
      have H' := Aside0.mk H; clear H; go_wp2
      go_meet
      case rel => exact ⟨_, (false), (by first | rfl | (simp; done) | (simp [*]; done)), H', ⟨by have := HJ2.out; first | omega | exact Nat.le_refl _⟩, ⟨by repeat (first | (with_reducible first | exact HB.out | apply below_alloc | apply pw_below_drewN | apply below_drew1) | exact HB.out)⟩⟩
    case rest =>
     clear HC19; try clear c1; try clear c2; try clear p2; try clear c5; try clear c7; try clear c8; try clear c8b0; try clear c8b1; try clear c10; try clear c10b0; try clear c10b1; try clear c13; try clear c15; try clear c21; try clear c21b0; try clear c21b1; try clear p2
     obtain ⟨kq, x48_18, rfl, HA, HJ18, HB⟩ := hcut
     cases kq with
     | zero => exact absurd HA.out (by simp [swarflaw38_TourImprove.j1])
     | succ kj18 =>
      have H := HA.out
      clear HA
      simp only [swarflaw38_TourImprove.j1] at H
      by_cases c22 : x48_18 = true
      ·subst c22
       have H1 : (some true) = some r := by rw [if_pos rfl] at H; exact H
       clear H; have H := H1; clear H1; obtain rfl := Option.some.inj H; go_wp2; go_ret
       exact ⟨by first | rfl | (simp [errW_none, errW_some] <;> rfl) | (simp [*, errW_none, errW_some] <;> rfl), by repeat (first | (with_reducible first | exact HB.out | apply below_alloc | apply pw_below_drewN | apply below_drew1) | exact HB.out)⟩
      ·replace c22 := Bool.eq_false_iff.mpr c22
       subst c22
       have H1 : ((tour_Improve.f kj18 l0 l1).bind fun bt363 => (if t362 = 0 then ((swarfref38_Length.f kj18 l0 bt363.1).bind fun bt367 => (if bt363.2 = 0 then (if bt367.2 = 0 then (if bt367.1 ≤ t361 then ((swarfref38_Local.f kj18 l0 bt363.1).bind fun t369 => (some t369)) else (some false)) else (some false)) else (some false))) else (if bt363.2 = t362 then (some ((bt363.1.length : Int) == 0)) else (some false)))) = some r := by rw [if_neg (show ¬ (false = true) by decide)] at H; exact H
       clear H; have H := H1; clear H1; replace H := Option.bind_eq_some_iff.mp H
       obtain ⟨⟨t363, t364⟩, A230, H⟩ := H
       replace H : (if t362 = 0 then ((swarfref38_Length.f kj18 l0 t363).bind fun bt367 => (if t364 = 0 then (if bt367.2 = 0 then (if bt367.1 ≤ t361 then ((swarfref38_Local.f kj18 l0 t363).bind fun t369 => (some t369)) else (some false)) else (some false)) else (some false))) else (if t364 = t362 then (some ((t363.length : Int) == 0)) else (some false))) = some r := H
       have A23 := Aside0.mk A230; clear A230
       by_cases c24 : t362 = 0
       ·rw [if_pos c24] at H
        have c24b0 : (t362 == 0) = true := beq_iff_eq.mpr c24
        have c24b1 : (t362 != 0) = false := bne_eq_false_iff_eq.mpr c24
        clear c24; replace H := Option.bind_eq_some_iff.mp H
        obtain ⟨⟨t367, t368⟩, A250, H⟩ := H
        replace H : (if t364 = 0 then (if t368 = 0 then (if t367 ≤ t361 then ((swarfref38_Local.f kj18 l0 t363).bind fun t369 => (some t369)) else (some false)) else (some false)) else (some false)) = some r := H
        have A25 := Aside0.mk A250; clear A250
        by_cases c26 : t364 = 0
        ·rw [if_pos c26] at H
         have c26b0 : (t364 == 0) = true := beq_iff_eq.mpr c26
         have c26b1 : (t364 != 0) = false := bne_eq_false_iff_eq.mpr c26
         clear c26
         by_cases c27 : t368 = 0
         ·rw [if_pos c27] at H
          have c27b0 : (t368 == 0) = true := beq_iff_eq.mpr c27
          have c27b1 : (t368 != 0) = false := bne_eq_false_iff_eq.mpr c27
          clear c27
          by_cases c28 : t367 ≤ t361
          ·rw [if_pos c28] at H
           have c28b0 : decide (t367 ≤ t361) = true := decide_eq_true c28
           clear c28; replace H := Option.bind_eq_some_iff.mp H
           obtain ⟨t369, A290, H⟩ := H
           replace H : (some t369) = some r := H
           have A29 := Aside0.mk A290; clear A290; obtain rfl := Option.some.inj H
           go_wp2_with (first | ((with_reducible refine gate_callee (f := 26) rfl ?_); refine goesL_ (some 52) rfl rfl Try.func26 (by kernel_rfl) rfl #[.slice A0 l0.length c0, .slice A1 l1.length c1] rfl (by (try simp only [List.map_toArray, List.map_cons, List.map_nil]); first | done | rfl | (simp only [List.length_drop, List.length_take]; rfl)) ?_; (with_reducible refine (tour_Improve.calls kj18 _ _ l0 _ _ l1 t363 t364 _ ?side1 ?side2 ?side3 ?side4 A23.out).mono ?_); (case side1 => repeat (first | exact (Kd.C_below HR0.out HB.out) | (with_reducible refine Kd.C_alloc ?_ _) | (with_reducible refine Kd.C_drewN ?_ _) | (with_reducible refine Kd.C_drew ?_))); (case side2 => exact HC0.out); (case side3 => repeat (first | exact (Kd.C_below HR1.out HB.out) | (with_reducible refine Kd.C_alloc ?_ _) | (with_reducible refine Kd.C_drewN ?_ _) | (with_reducible refine Kd.C_drew ?_))); (case side4 => exact HC1.out); rintro e w30 ⟨v365, rfl, ho0, hb⟩; refine ⟨_, rfl, ?_⟩; have n0_ := Aside0.mk (Kd.R_lower ho0 (below_size (by repeat (first | (with_reducible first | exact HB.out | apply below_alloc | apply pw_below_drewN | apply below_drew1) | exact HB.out)))); have n1_ := Aside0.mk (below_step (by repeat (first | (with_reducible first | exact HB.out | apply below_alloc | apply pw_below_drewN | apply below_drew1) | exact HB.out)) hb); clear HB; have HO366 := n0_; have HB := n1_; clear n0_ n1_; (try clear hb); (try clear hb2); (try clear hk); (try clear hi); (try clear ho0); obtain ⟨Ao31, co31, eo31⟩ := Kd.R_slice HO366.out; subst eo31) | ((with_reducible refine gate_callee (f := 13) rfl ?_); refine goesL_ (some 68) rfl rfl Try.func13 (by kernel_rfl) rfl #[.slice A0 l0.length c0, .slice Ao31 t363.length co31] rfl (by (try simp only [List.map_toArray, List.map_cons, List.map_nil]); first | done | rfl | (simp only [List.length_drop, List.length_take]; rfl)) ?_; (with_reducible refine (swarfref38_Length.calls kj18 _ _ l0 _ _ t363 t367 t368 _ ?side1 ?side2 ?side3 ?side4 A25.out).mono ?_); (case side1 => repeat (first | exact (Kd.C_below HR0.out HB.out) | (with_reducible refine Kd.C_alloc ?_ _) | (with_reducible refine Kd.C_drewN ?_ _) | (with_reducible refine Kd.C_drew ?_))); (case side2 => exact HC0.out); (case side3 => repeat (first | exact (Kd.R_reads' HO366.out).2.2 | (with_reducible refine Kd.C_alloc ?_ _) | (with_reducible refine Kd.C_drewN ?_ _) | (with_reducible refine Kd.C_drew ?_))); (case side4 => exact (Kd.R_reads' HO366.out).2.1); rintro e w32 ⟨rfl, hb⟩; refine ⟨_, rfl, ?_⟩; have n0_ := Aside0.mk (Kd.R_below (by (with_reducible repeat (first | apply Kd.R_alloc | apply Kd.R_drewN | apply Kd.R_drew)); exact HO366.out) hb); have n1_ := Aside0.mk (below_step (by repeat (first | (with_reducible first | exact HB.out | apply below_alloc | apply pw_below_drewN | apply below_drew1) | exact HB.out)) hb); clear HO366; clear HB; have HO366 := n0_; have HB := n1_; clear n0_ n1_; (try clear hb); (try clear hb2); (try clear hk); (try clear hi)) | (go_at_call 27; (with_reducible refine (swarfref38_Local.calls kj18 _ _ l0 _ _ t363 t369 _ ?side1 ?side2 ?side3 ?side4 A29.out).mono ?_); (case side1 => repeat (first | exact (Kd.C_below HR0.out HB.out) | (with_reducible refine Kd.C_alloc ?_ _) | (with_reducible refine Kd.C_drewN ?_ _) | (with_reducible refine Kd.C_drew ?_))); (case side2 => exact HC0.out); (case side3 => repeat (first | exact (Kd.R_reads' HO366.out).2.2 | (with_reducible refine Kd.C_alloc ?_ _) | (with_reducible refine Kd.C_drewN ?_ _) | (with_reducible refine Kd.C_drew ?_))); (case side4 => exact (Kd.R_reads' HO366.out).2.1); rintro e w33 ⟨rfl, hb⟩; have n0_ := Aside0.mk (Kd.R_below (by (with_reducible repeat (first | apply Kd.R_alloc | apply Kd.R_drewN | apply Kd.R_drew)); exact HO366.out) hb); have n1_ := Aside0.mk (below_step (by repeat (first | (with_reducible first | exact HB.out | apply below_alloc | apply pw_below_drewN | apply below_drew1) | exact HB.out)) hb); clear HO366; clear HB; have HO366 := n0_; have HB := n1_; clear n0_ n1_; (try clear hb); (try clear hb2); (try clear hk); (try clear hi)))
           go_ret
           exact ⟨by first | rfl | (simp [errW_none, errW_some] <;> rfl) | (simp [*, errW_none, errW_some] <;> rfl), by repeat (first | (with_reducible first | exact HB.out | apply below_alloc | apply pw_below_drewN | apply below_drew1) | exact HB.out)⟩
          ·rw [if_neg c28] at H
           have c28b0 : decide (t367 ≤ t361) = false := decide_eq_false c28
           clear c28
           (rw [HRT.out] at H; exact absurd H (by decide))
         ·rw [if_neg c27] at H
          have c27b0 : (t368 == 0) = false := beq_eq_false_iff_ne.mpr c27
          have c27b1 : (t368 != 0) = true := bne_iff_ne.mpr c27
          (rw [HRT.out] at H; exact absurd H (by decide))
        ·rw [if_neg c26] at H
         have c26b0 : (t364 == 0) = false := beq_eq_false_iff_ne.mpr c26
         have c26b1 : (t364 != 0) = true := bne_iff_ne.mpr c26
         (rw [HRT.out] at H; exact absurd H (by decide))
       ·rw [if_neg c24] at H
        have c24b0 : (t362 == 0) = false := beq_eq_false_iff_ne.mpr c24
        have c24b1 : (t362 != 0) = true := bne_iff_ne.mpr c24
        by_cases c43 : t364 = t362
        ·rw [if_pos c43] at H
         have c43b0 : (t364 == t362) = true := beq_iff_eq.mpr c43
         have c43b1 : (t364 != t362) = false := bne_eq_false_iff_eq.mpr c43
         clear c43; obtain rfl := Option.some.inj H
         go_wp2_with (first | ((with_reducible refine gate_callee (f := 26) rfl ?_); refine goesL_ (some 52) rfl rfl Try.func26 (by kernel_rfl) rfl #[.slice A0 l0.length c0, .slice A1 l1.length c1] rfl (by (try simp only [List.map_toArray, List.map_cons, List.map_nil]); first | done | rfl | (simp only [List.length_drop, List.length_take]; rfl)) ?_; (with_reducible refine (tour_Improve.calls kj18 _ _ l0 _ _ l1 t363 t364 _ ?side1 ?side2 ?side3 ?side4 A23.out).mono ?_); (case side1 => repeat (first | exact (Kd.C_below HR0.out HB.out) | (with_reducible refine Kd.C_alloc ?_ _) | (with_reducible refine Kd.C_drewN ?_ _) | (with_reducible refine Kd.C_drew ?_))); (case side2 => exact HC0.out); (case side3 => repeat (first | exact (Kd.C_below HR1.out HB.out) | (with_reducible refine Kd.C_alloc ?_ _) | (with_reducible refine Kd.C_drewN ?_ _) | (with_reducible refine Kd.C_drew ?_))); (case side4 => exact HC1.out); rintro e w44 ⟨v365, rfl, ho0, hb⟩; refine ⟨_, rfl, ?_⟩; have n0_ := Aside0.mk (Kd.R_lower ho0 (below_size (by repeat (first | (with_reducible first | exact HB.out | apply below_alloc | apply pw_below_drewN | apply below_drew1) | exact HB.out)))); have n1_ := Aside0.mk (below_step (by repeat (first | (with_reducible first | exact HB.out | apply below_alloc | apply pw_below_drewN | apply below_drew1) | exact HB.out)) hb); clear HB; have HO366 := n0_; have HB := n1_; clear n0_ n1_; (try clear hb); (try clear hb2); (try clear hk); (try clear hi); (try clear ho0); obtain ⟨Ao45, co45, eo45⟩ := Kd.R_slice HO366.out; subst eo45))
         go_ret
         exact ⟨by first | rfl | (simp [errW_none, errW_some] <;> rfl) | (simp [*, errW_none, errW_some] <;> rfl), by repeat (first | (with_reducible first | exact HB.out | apply below_alloc | apply pw_below_drewN | apply below_drew1) | exact HB.out)⟩
        ·rw [if_neg c43] at H
         have c43b0 : (t364 == t362) = false := beq_eq_false_iff_ne.mpr c43
         have c43b1 : (t364 != t362) = true := bne_iff_ne.mpr c43
         (rw [HRT.out] at H; exact absurd H (by decide))
end Go.Proofs.Ytohjocajaanhaaa.P

/- The examples of the chapter hold, told by the printed function. -/

namespace Go.Proofs.Ytohjocajaanhaaa.B
open Go.RowKit Go.Proofs.Ytohjocajaanhaaa.P Go.Proofs.YtohjocajaanhaaaW.PrintWords Go.Proofs.YtohjocajaanhaaaW.PrintLast
theorem awake_ev : Ev (fun k => swarflaw38_awake.f k) true := Ev.of swarflaw38_awake.mono swarflaw38_awake.small
end Go.Proofs.Ytohjocajaanhaaa.B

-- PRINTED by print.py (a twelfth state) out of the translation. Not trusted: Lean checks it.

namespace Go.Proofs.Ytohjocajaanhaaa.P
open Go.RowKit Go.Proofs.YtohjocajaanhaaaW.PrintWords Go.Proofs.YtohjocajaanhaaaW.PrintLast Go.Proofs.YtohjocajaanhaaaW.PrintMore
attribute [local go_sem] max2_int min2_int max_two min_two max_three min_three max_four min_four   -- for this text's walks alone
set_option linter.unusedVariables false
set_option linter.unusedSimpArgs false

/-! ### swarflaw38_right: function 14 -/
def swarflaw38_right.f (k : Nat) (l0 : List (S31)) (a1 : Int) : Option (Bool) := (swarfref38_Valid.f k l0 a1).bind fun t258 => (some (t258 == 0))
theorem swarflaw38_right.mono : ∀ a0 a1 k, LeO (swarflaw38_right.f k a0 a1) (swarflaw38_right.f (k + 1) a0 a1) := by
 intro a0 a1 k
 unfold swarflaw38_right.f
 repeat' first
   | (with_reducible exact swarfref38_Valid.mono _ _ _)
   | (with_reducible exact LeO.refl _)
   | (with_reducible exact LeO.none _)
   | (with_reducible refine LeO.ite ?_ ?_)
   | (with_reducible refine LeO.bind ?_ (fun _ => ?_))
   | exact swarfref38_Valid.mono _ _ _
   | exact LeO.none _
   | refine LeO.ite ?_ ?_
   | refine LeO.bind ?_ (fun _ => ?_)
set_option maxHeartbeats 8000000 in
set_option maxRecDepth 100000 in
theorem swarflaw38_right.calls (k : Nat) (A0 : Option Addr) (c0 : Nat) (l0 : List (S31)) (a1 : Int) (r : Bool) (w : World) (hr0 : Kd.C k31 w A0 l0.length l0) (hc0 : l0.length ≤ c0) (h : swarflaw38_right.f k l0 a1 = some r) :
  Calls Try.prog 14 #[.slice A0 l0.length c0, .int .i64 a1] w fun e w' => e = .returned (.bool r) ∧ Drawn0 w w' := by
 have HR0 := Aside0.mk hr0
 have HC0 := Aside0.mk hc0
 clear hr0 hc0
 have H : ((swarfref38_Valid.f k l0 a1).bind fun t258 => (some (t258 == 0))) = some r := h
 clear h
 replace H := Option.bind_eq_some_iff.mp H
 obtain ⟨t258, A30, H⟩ := H
 replace H : (some (t258 == 0)) = some r := H
 have A3 := Aside0.mk A30
 clear A30
 obtain rfl := Option.some.inj H
 go_enter Try.func14, Try.ntmps14
 go_wp2_with (first | ((with_reducible refine gate_callee (f := 31) rfl ?_); refine goesL_ (some 7) rfl rfl Try.func31 (by kernel_rfl) rfl #[.slice A0 l0.length c0, .int .i64 a1] rfl (by (try simp only [List.map_toArray, List.map_cons, List.map_nil]); first | done | rfl | (simp only [List.length_drop, List.length_take]; rfl)) ?_; (with_reducible refine (swarfref38_Valid.calls k _ _ l0 a1 t258 _ ?side1 ?side2 A3.out).mono ?_); (case side1 => repeat (first | exact HR0.out | (with_reducible refine Kd.C_alloc ?_ _) | (with_reducible refine Kd.C_drewN ?_ _) | (with_reducible refine Kd.C_drew ?_))); (case side2 => exact HC0.out); rintro e w' ⟨rfl, ⟨nd, rfl⟩⟩; refine ⟨_, rfl, ?_⟩))
 go_ret
 exact ⟨by first | rfl | (simp; done) | (simp [*]; done), by repeat (first | exact Drawn0.refl _ | apply Drawn0.step)⟩

end Go.Proofs.Ytohjocajaanhaaa.P

/- What the printed functions of tours come to: the error of positions, orders, lengths. Plain numbers and lists. -/

namespace Go.Proofs.Ytohjocajaanhaaa.B
open Go.RowKit Go.Proofs.Ytohjocajaanhaaa.P Go.Proofs.YtohjocajaanhaaaW.PrintWords Go.Proofs.YtohjocajaanhaaaW.PrintLast Go.Proofs.YtohjocajaanhaaaW.PrintMore
set_option linter.unusedVariables false
set_option linter.unusedSimpArgs false

theorem wrap_mid (x : Int) (h0 : -4000000000000000 ≤ x) (h1 : x ≤ 4000000000000000) : wrap64 x = x := by unfold wrap64; omega
theorem ev_end {α : Type} {g : Nat → Option α} {r : α} (h : ∀ k, g (k + 1) = some r) : Ev g r := Ev.step (f := fun _ => some r) h (Ev.now r)
def okp (p : S31) : Bool := decide (-10000000 ≤ p.f0) && decide (p.f0 ≤ 10000000) && (decide (-10000000 ≤ p.f1) && decide (p.f1 ≤ 10000000))
theorem okp_iff (p : S31) : okp p = true ↔ (-10000000 ≤ p.f0 ∧ p.f0 ≤ 10000000) ∧ (-10000000 ≤ p.f1 ∧ p.f1 ≤ 10000000) := by simp [okp]
def gapZ (a b : Int) : Int := if a < b then b - a else a - b
/-- The distance of two positions. -/
def dst (p q : S31) : Int := mx (gapZ p.f0 q.f0) (gapZ p.f1 q.f1)
theorem dst_nonneg (p q : S31) : 0 ≤ dst p q := by unfold dst mx gapZ; repeat' split <;> omega
theorem dst_le {p q : S31} (hp : okp p = true) (hq : okp q = true) : dst p q ≤ 20000000 := by
  rw [okp_iff] at hp hq
  unfold dst mx gapZ; repeat' split <;> omega
theorem dst_symm (p q : S31) : dst p q = dst q p := by unfold dst mx gapZ; repeat' split <;> omega
theorem dist_eq {p q : S31} (hp : okp p = true) (hq : okp q = true) : tour_Distance.f p.f0 p.f1 q.f0 q.f1 = some (dst p q) := by
  rw [okp_iff] at hp hq
  unfold tour_Distance.f
  rw [wrap_mid _ (by omega) (by omega), wrap_mid _ (by omega) (by omega), wrap_mid _ (by omega) (by omega), wrap_mid _ (by omega) (by omega)]
  congr 1
  unfold dst mx gapZ; repeat' split <;> omega
theorem ref_dist_eq {p q : S31} (hp : okp p = true) (hq : okp q = true) : swarfref38_Distance.f p.f0 p.f1 q.f0 q.f1 = some (dst p q) := by
  rw [okp_iff] at hp hq
  unfold swarfref38_Distance.f swarfref38_gap.f
  rw [wrap_mid _ (by omega) (by omega), wrap_mid _ (by omega) (by omega), wrap_mid _ (by omega) (by omega), wrap_mid _ (by omega) (by omega)]
  unfold dst gapZ
  by_cases h1 : p.f0 < q.f0 <;> by_cases h2 : p.f1 < q.f1 <;> simp [h1, h2]
theorem drop_T31 (l : List S31) (j : Nat) (h : j < l.length) : l.drop j = rd_T31 l (j : Int) :: l.drop (j + 1) := by
  rw [List.drop_eq_getElem_cons h]
  congr 1
  unfold rd_T31
  simp [List.getD, h]
theorem drop_rd (l : List Int) (j : Nat) (h : j < l.length) : l.drop j = rd l (j : Int) :: l.drop (j + 1) := by
  rw [List.drop_eq_getElem_cons h]
  congr 1
  unfold rd
  simp [List.getD, h]
theorem ok_at {l : List S31} (h : l.all okp = true) (i : Int) (h0 : 0 ≤ i) (h1 : i < (l.length : Int)) : okp (rd_T31 l i) = true := by
  rw [List.all_eq_true] at h
  have : i.toNat < l.length := by omega
  have e : rd_T31 l i = l[i.toNat] := by unfold rd_T31; simp [List.getD, this]
  rw [e]
  exact h _ (List.getElem_mem this)

/-! ### The error of positions -/
theorem check_l0 (l : List S31) (hn : l.length ≤ 1000) (d : Nat) : ∀ j : Nat, j + d = l.length → Ev (fun k => tour_check.l0 k l (l.length : Int) (j : Int)) (if (l.drop j).all okp = true then 0 else 11) := by
  induction d with
  | zero =>
    intro j hj
    rw [List.drop_eq_nil_of_le (by omega)]
    exact ev_end (fun k => by simp only [tour_check.l0]; rw [if_neg (by omega)]; rfl)
  | succ d ih =>
    intro j hj
    have hw : wrap64 ((j : Int) + 1) = ((j + 1 : Nat) : Int) := by rw [wrap_mid _ (by omega) (by omega)]; omega
    rw [drop_T31 l j (by omega)]
    generalize hp : rd_T31 l (j : Int) = p
    by_cases ho : okp p = true
    · have hi := ih (j + 1) (by omega)
      rw [List.all_cons, ho, Bool.true_and]
      refine Ev.step (fun k => ?_) hi
      rw [okp_iff] at ho
      simp only [tour_check.l0]
      rw [if_pos (by omega), if_pos (by omega), if_pos (by omega), hp, if_neg (by unfold mx; split <;> omega), if_neg (by unfold mn; split <;> omega), hw]
    · rw [List.all_cons, show okp p = false by simpa using ho, Bool.false_and]
      refine ev_end (fun k => ?_)
      rw [okp_iff] at ho
      simp only [tour_check.l0]
      rw [if_pos (by omega), if_pos (by omega), if_pos (by omega), hp]
      by_cases h1 : mx p.f0 p.f1 > 10000000
      · rw [if_pos h1]; rfl
      · rw [if_neg h1, if_pos (by unfold mx at h1; unfold mn; split at h1 <;> split <;> omega)]; rfl
theorem rvalid_l0 (l : List S31) (hn : l.length ≤ 1000) (d : Nat) : ∀ j : Nat, j + d = l.length → Ev (fun k => swarfref38_Valid.l0 k l (j : Int)) (if (l.drop j).all okp = true then 0 else 11) := by
  induction d with
  | zero =>
    intro j hj
    rw [List.drop_eq_nil_of_le (by omega)]
    exact ev_end (fun k => by simp only [swarfref38_Valid.l0]; rw [if_neg (by omega)]; rfl)
  | succ d ih =>
    intro j hj
    have hw : wrap64 ((j : Int) + 1) = ((j + 1 : Nat) : Int) := by rw [wrap_mid _ (by omega) (by omega)]; omega
    rw [drop_T31 l j (by omega)]
    generalize hp : rd_T31 l (j : Int) = p
    by_cases ho : okp p = true
    · have hi := ih (j + 1) (by omega)
      rw [List.all_cons, ho, Bool.true_and]
      refine Ev.step (fun k => ?_) hi
      rw [okp_iff] at ho
      simp only [swarfref38_Valid.l0]
      rw [if_pos (by omega), if_pos (by omega), hp, if_neg (by omega), if_neg (by omega), if_neg (by omega), if_neg (by omega), hw]
    · rw [List.all_cons, show okp p = false by simpa using ho, Bool.false_and]
      refine ev_end (fun k => ?_)
      rw [okp_iff] at ho
      simp only [swarfref38_Valid.l0]
      rw [if_pos (by omega), if_pos (by omega), hp]
      by_cases h1 : p.f0 > 10000000
      · rw [if_pos h1]; rfl
      · rw [if_neg h1]
        by_cases h2 : p.f0 < -10000000
        · rw [if_pos h2]; rfl
        · rw [if_neg h2]
          by_cases h3 : p.f1 > 10000000
          · rw [if_pos h3]; rfl
          · rw [if_neg h3, if_pos (by omega)]; rfl
/-- The error of positions. -/
def chkE (l : List S31) (m : Int) : Int := if (l.length : Int) > m then 3 else if l.all okp = true then 0 else 11
theorem chkE_zero {l : List S31} {m : Int} (h : chkE l m = 0) : (l.length : Int) ≤ m ∧ l.all okp = true := by
  unfold chkE at h
  split at h
  · cases h
  · split at h
    · rename_i h1 h2; exact ⟨by omega, h2⟩
    · cases h
theorem check_ev (l : List S31) (m : Int) (hn : l.length ≤ 1000) : Ev (fun k => tour_check.f k l m) (chkE l m) := by
  unfold tour_check.f chkE
  by_cases h : (l.length : Int) > m
  · simp only [if_pos h]; exact Ev.now _
  · simp only [if_neg h]
    exact check_l0 l hn l.length 0 (by omega)
theorem rvalid_ev (l : List S31) (m : Int) (hn : l.length ≤ 1000) : Ev (fun k => swarfref38_Valid.f k l m) (chkE l m) := by
  unfold swarfref38_Valid.f chkE
  by_cases h : (l.length : Int) > m
  · simp only [if_pos h]; exact Ev.now _
  · simp only [if_neg h]
    exact rvalid_l0 l hn l.length 0 (by omega)
/-! ### Orders -/
theorem rdOf_set (s : List Bool) (x y : Int) (h0 : 0 ≤ x) (h1 : x < (s.length : Int)) (hy : 0 ≤ y) : rdOf false (s.set x.toNat true) y = if x = y then true else rdOf false s y := by
  unfold rdOf
  rw [List.getD_eq_getElem?_getD, List.getD_eq_getElem?_getD, List.getElem?_set]
  by_cases h : x = y
  · subst h; rw [if_pos rfl, if_pos (by omega), if_pos rfl]; rfl
  · rw [if_neg (by omega), if_neg h]
def ordS (n : Nat) (seen : List Bool) : List Int → Bool
  | [] => true
  | x :: xs => if x < 0 then false else if x ≥ (n : Int) then false else if rdOf false seen x = true then false else ordS n (seen.set x.toNat true) xs
theorem ordS_spec (n : Nat) (xs : List Int) : ∀ seen : List Bool, seen.length = n → ordS n seen xs = true → (∀ x ∈ xs, 0 ≤ x ∧ x < (n : Int) ∧ rdOf false seen x = false) ∧ xs.Nodup := by
  induction xs with
  | nil => intro seen _ _; exact ⟨fun x h => (by cases h), List.nodup_nil⟩
  | cons x xs ih =>
    intro seen hs h
    unfold ordS at h
    split at h
    · cases h
    · split at h
      · cases h
      · split at h
        · cases h
        · rename_i h0 h1 h2
          obtain ⟨g1, g2⟩ := ih (seen.set x.toNat true) (by simp [hs]) h
          refine ⟨fun y hy => ?_, List.nodup_cons.2 ⟨fun hx => ?_, g2⟩⟩
          · rcases List.mem_cons.1 hy with rfl | hy
            · exact ⟨by omega, by omega, by simpa using h2⟩
            · obtain ⟨a, b, c⟩ := g1 y hy
              rw [rdOf_set seen x y (by omega) (by omega) a] at c
              split at c
              · cases c
              · exact ⟨a, b, c⟩
          · obtain ⟨a, b, c⟩ := g1 x hx
            rw [rdOf_set seen x x (by omega) (by omega) a, if_pos rfl] at c
            cases c
theorem isOrder_l0 (n : Nat) (o : List Int) (hl : o.length ≤ 1000) (d : Nat) : ∀ (j : Nat) (seen : List Bool), seen.length = n → j + d = o.length → Ev (fun k => tour_isOrder.l0 k (n : Int) seen o (o.length : Int) (j : Int)) (ordS n seen (o.drop j)) := by
  induction d with
  | zero =>
    intro j seen hs hj
    rw [List.drop_eq_nil_of_le (by omega)]
    exact ev_end (fun k => by simp only [tour_isOrder.l0]; rw [if_neg (by omega)]; rfl)
  | succ d ih =>
    intro j seen hs hj
    have hw : wrap64 ((j : Int) + 1) = ((j + 1 : Nat) : Int) := by rw [wrap_mid _ (by omega) (by omega)]; omega
    rw [drop_rd o j (by omega)]
    generalize hx : rd o (j : Int) = x
    unfold ordS
    by_cases h0 : x < 0
    · rw [if_pos h0]
      exact ev_end (fun k => by simp only [tour_isOrder.l0]; rw [if_pos (by omega), if_pos (by omega), if_pos (by omega), hx, if_pos h0])
    · rw [if_neg h0]
      by_cases h1 : x ≥ (n : Int)
      · rw [if_pos h1]
        exact ev_end (fun k => by simp only [tour_isOrder.l0]; rw [if_pos (by omega), if_pos (by omega), if_pos (by omega), hx, if_neg h0, if_pos h1])
      · rw [if_neg h1]
        by_cases h2 : rdOf false seen x = true
        · rw [if_pos h2]
          exact ev_end (fun k => by simp only [tour_isOrder.l0]; rw [if_pos (by omega), if_pos (by omega), if_pos (by omega), hx, if_neg h0, if_neg h1, if_pos (by omega), if_pos (by omega), if_pos h2])
        · rw [if_neg h2]
          refine Ev.step (fun k => ?_) (ih (j + 1) (seen.set x.toNat true) (by simp [hs]) (by omega))
          simp only [tour_isOrder.l0]
          rw [if_pos (by omega), if_pos (by omega), if_pos (by omega), hx, if_neg h0, if_neg h1, if_pos (by omega), if_pos (by omega), if_neg h2, hw]
theorem rorder_l0 (n : Nat) (o : List Int) (hl : o.length = n) (hn : n ≤ 1000) (d : Nat) : ∀ (j : Nat) (seen : List Bool), seen.length = n → j + d = n → Ev (fun k => swarfref38_Order.l0 k (n : Int) o seen (j : Int)) (ordS n seen (o.drop j)) := by
  induction d with
  | zero =>
    intro j seen hs hj
    rw [List.drop_eq_nil_of_le (by omega)]
    exact ev_end (fun k => by simp only [swarfref38_Order.l0]; rw [if_neg (by omega)]; rfl)
  | succ d ih =>
    intro j seen hs hj
    have hw : wrap64 ((j : Int) + 1) = ((j + 1 : Nat) : Int) := by rw [wrap_mid _ (by omega) (by omega)]; omega
    rw [drop_rd o j (by omega)]
    generalize hx : rd o (j : Int) = x
    unfold ordS
    by_cases h0 : x < 0
    · rw [if_pos h0]
      exact ev_end (fun k => by simp only [swarfref38_Order.l0]; rw [if_pos (by omega), if_pos (by omega), if_pos (by omega), hx, if_pos h0])
    · rw [if_neg h0]
      by_cases h1 : x ≥ (n : Int)
      · rw [if_pos h1]
        exact ev_end (fun k => by simp only [swarfref38_Order.l0]; rw [if_pos (by omega), if_pos (by omega), if_pos (by omega), hx, if_neg h0, if_pos h1])
      · rw [if_neg h1]
        by_cases h2 : rdOf false seen x = true
        · rw [if_pos h2]
          exact ev_end (fun k => by simp only [swarfref38_Order.l0]; rw [if_pos (by omega), if_pos (by omega), if_pos (by omega), hx, if_neg h0, if_neg h1, if_pos (by omega), if_pos (by omega), if_pos h2])
        · rw [if_neg h2]
          refine Ev.step (fun k => ?_) (ih (j + 1) (seen.set x.toNat true) (by simp [hs]) (by omega))
          simp only [swarfref38_Order.l0]
          rw [if_pos (by omega), if_pos (by omega), if_pos (by omega), hx, if_neg h0, if_neg h1, if_pos (by omega), if_pos (by omega), if_neg h2, hw]
/-- Whether a list is an order of n positions. -/
def isOrd (n : Nat) (o : List Int) : Bool := if o.length = n then (if n = 0 ∨ rd o 0 = 0 then ordS n (List.replicate n false) o else false) else false
theorem isOrder_ev (n : Nat) (hn : n ≤ 1000) (o : List Int) : Ev (fun k => tour_isOrder.f k o (n : Int)) (isOrd n o) := by
  unfold tour_isOrder.f isOrd
  by_cases h : o.length = n
  · simp only [if_pos h, if_pos (show (o.length : Int) = (n : Int) by omega)]
    have hgo : Ev (fun k => tour_isOrder.j0 k o (n : Int) false) (ordS n (List.replicate n false) o) := by
      refine Ev.step (fun k => ?_) (isOrder_l0 n o (by omega) n 0 (List.replicate n false) (by simp) (by omega))
      simp only [tour_isOrder.j0]
      rw [if_neg (by decide), if_pos (by omega), if_pos (by omega), Int.toNat_natCast]
      rfl
    by_cases h0 : n = 0
    · simp only [if_neg (show ¬ (n : Int) > 0 by omega), if_pos (show n = 0 ∨ rd o 0 = 0 from .inl h0)]
      exact hgo
    · simp only [if_pos (show (n : Int) > 0 by omega), if_pos (show 0 < (o.length : Int) by omega)]
      by_cases h1 : rd o 0 = 0
      · have hb : (rd o 0 != 0) = false := by rw [h1]; rfl
        rw [if_pos (show n = 0 ∨ rd o 0 = 0 from .inr h1)]
        simp only [hb]
        exact hgo
      · simp only [if_neg (show ¬ (n = 0 ∨ rd o 0 = 0) by omega), show (rd o 0 != 0) = true by simpa using h1]
        exact ev_end (fun k => by simp only [tour_isOrder.j0]; rfl)
  · simp only [if_neg h, if_neg (show ¬ (o.length : Int) = (n : Int) by omega)]
    exact ev_end (fun k => by simp only [tour_isOrder.j0]; rfl)
theorem rorder_ev (n : Nat) (hn : n ≤ 1000) (o : List Int) : Ev (fun k => swarfref38_Order.f k (n : Int) o) (isOrd n o) := by
  unfold swarfref38_Order.f isOrd
  by_cases h : o.length = n
  · simp only [if_pos h, if_pos (show (o.length : Int) = (n : Int) by omega)]
    have hgo : Ev (fun k => swarfref38_Order.j0 k (n : Int) o false) (ordS n (List.replicate n false) o) := by
      refine Ev.step (fun k => ?_) (rorder_l0 n o h hn n 0 (List.replicate n false) (by simp) (by omega))
      simp only [swarfref38_Order.j0]
      rw [if_neg (by decide), if_pos (by omega), if_pos (by omega), Int.toNat_natCast]
      rfl
    by_cases h0 : n = 0
    · simp only [if_neg (show ¬ (n : Int) > 0 by omega), if_pos (show n = 0 ∨ rd o 0 = 0 from .inl h0)]
      exact hgo
    · simp only [if_pos (show (n : Int) > 0 by omega), if_pos (show 0 < (o.length : Int) by omega)]
      by_cases h1 : rd o 0 = 0
      · have hb : (rd o 0 != 0) = false := by rw [h1]; rfl
        rw [if_pos (show n = 0 ∨ rd o 0 = 0 from .inr h1)]
        simp only [hb]
        exact hgo
      · simp only [if_neg (show ¬ (n = 0 ∨ rd o 0 = 0) by omega), show (rd o 0 != 0) = true by simpa using h1]
        exact ev_end (fun k => by simp only [swarfref38_Order.j0]; rfl)
  · simp only [if_neg h, if_neg (show ¬ (o.length : Int) = (n : Int) by omega)]
    exact ev_end (fun k => by simp only [swarfref38_Order.j0]; rfl)
theorem isOrd_spec {n : Nat} {o : List Int} (h : isOrd n o = true) : o.length = n ∧ (n = 0 ∨ rd o 0 = 0) ∧ (∀ x ∈ o, 0 ≤ x ∧ x < (n : Int)) ∧ o.Nodup := by
  unfold isOrd at h
  split at h
  · rename_i h1
    split at h
    · rename_i h2
      obtain ⟨a, b⟩ := ordS_spec n o _ (by simp) h
      exact ⟨h1, h2, fun x hx => ⟨(a x hx).1, (a x hx).2.1⟩, b⟩
    · cases h
  · cases h

/-! ### Lengths -/
def wy (l : List S31) : List Int → Int
  | [] => 0
  | [_] => 0
  | a :: b :: t => dst (rd_T31 l a) (rd_T31 l b) + wy l (b :: t)
theorem wy_nonneg (l : List S31) : ∀ o : List Int, 0 ≤ wy l o
  | [] => Int.le_refl _
  | [_] => Int.le_refl _
  | a :: b :: t => by
    have := wy_nonneg l (b :: t)
    have := dst_nonneg (rd_T31 l a) (rd_T31 l b)
    simp only [wy]; omega
theorem rd_mem {o : List Int} {i : Int} (h0 : 0 ≤ i) (h1 : i < (o.length : Int)) : rd o i ∈ o := by
  have : i.toNat < o.length := by omega
  have e : rd o i = o[i.toNat] := by unfold rd; simp [List.getD, this]
  rw [e]; exact List.getElem_mem this
theorem length_l0 (l : List S31) (hv : l.all okp = true) (o : List Int) (hl : o.length ≤ 1000) (hr : ∀ x ∈ o, 0 ≤ x ∧ x < (l.length : Int)) (d : Nat) : ∀ (j : Nat) (acc : Int), 0 ≤ acc → acc ≤ 20000000 * j → j + 1 + d = o.length →
    Ev (fun k => tour_length.l0 k l o acc ((j + 1 : Nat) : Int)) (acc + wy l (o.drop j)) ∧ Ev (fun k => swarfref38_way.l0 k l o acc ((j + 1 : Nat) : Int)) (acc + wy l (o.drop j)) := by
  induction d with
  | zero =>
    intro j acc ha0 ha1 hj
    rw [drop_rd o j (by omega), List.drop_eq_nil_of_le (by omega)]
    have e : acc + wy l [rd o (j : Int)] = acc := by simp [wy]
    rw [e]
    exact ⟨ev_end (fun k => by simp only [tour_length.l0]; rw [if_neg (by omega)]), ev_end (fun k => by simp only [swarfref38_way.l0]; rw [if_neg (by omega)])⟩
  | succ d ih =>
    intro j acc ha0 ha1 hj
    have m1 := hr _ (rd_mem (o := o) (i := (j : Int)) (by omega) (by omega))
    have m2 := hr _ (rd_mem (o := o) (i := ((j + 1 : Nat) : Int)) (by omega) (by omega))
    have k1 := ok_at hv _ m1.1 m1.2
    have k2 := ok_at hv _ m2.1 m2.2
    have dn := dst_nonneg (rd_T31 l (rd o (j : Int))) (rd_T31 l (rd o ((j + 1 : Nat) : Int)))
    have dl := dst_le k1 k2
    have hw1 : wrap64 (((j + 1 : Nat) : Int) - 1) = (j : Int) := by rw [wrap_mid _ (by omega) (by omega)]; omega
    have hw2 : wrap64 (((j + 1 : Nat) : Int) + 1) = ((j + 1 + 1 : Nat) : Int) := by rw [wrap_mid _ (by omega) (by omega)]; omega
    have hw3 : wrap64 (acc + dst (rd_T31 l (rd o (j : Int))) (rd_T31 l (rd o ((j + 1 : Nat) : Int)))) = acc + dst (rd_T31 l (rd o (j : Int))) (rd_T31 l (rd o ((j + 1 : Nat) : Int))) := wrap_mid _ (by omega) (by omega)
    have hi := ih (j + 1) (acc + dst (rd_T31 l (rd o (j : Int))) (rd_T31 l (rd o ((j + 1 : Nat) : Int)))) (by omega) (by omega) (by omega)
    have e : acc + wy l (o.drop j) = acc + dst (rd_T31 l (rd o (j : Int))) (rd_T31 l (rd o ((j + 1 : Nat) : Int))) + wy l (o.drop (j + 1)) := by
      rw [drop_rd o j (by omega), drop_rd o (j + 1) (by omega)]
      simp only [wy]; omega
    rw [e]
    constructor
    · refine Ev.step (fun k => ?_) hi.1
      simp only [tour_length.l0]
      rw [if_pos (by omega), hw1, if_pos (by omega), if_pos (by omega), if_pos m1.1, if_pos m1.2, if_pos (by omega), if_pos m2.1, if_pos m2.2, dist_eq k1 k2]
      simp only [Option.bind_some]
      rw [hw2, hw3]
    · refine Ev.step (fun k => ?_) hi.2
      simp only [swarfref38_way.l0]
      rw [if_pos (by omega), hw1, if_pos (by omega), if_pos (by omega), if_pos m1.1, if_pos m1.2, if_pos (by omega), if_pos m2.1, if_pos m2.2, ref_dist_eq k1 k2]
      simp only [Option.bind_some]
      rw [hw2, hw3]
theorem length_ev (l : List S31) (hv : l.all okp = true) (o : List Int) (hl : o.length ≤ 1000) (hr : ∀ x ∈ o, 0 ≤ x ∧ x < (l.length : Int)) : Ev (fun k => tour_length.f k l o) (wy l o) ∧ Ev (fun k => swarfref38_way.f k l o) (wy l o) := by
  unfold tour_length.f swarfref38_way.f
  cases o with
  | nil => exact ⟨ev_end (fun k => by simp only [tour_length.l0]; rfl), ev_end (fun k => by simp only [swarfref38_way.l0]; rfl)⟩
  | cons a t =>
    have := length_l0 l hv (a :: t) hl hr t.length 0 0 (by omega) (by omega) (by simp only [List.length_cons]; omega)
    rw [List.drop_zero, Int.zero_add] at this
    exact this
/-- What Length answers. -/
def lenE (l : List S31) (o : List Int) : Int × Int := if chkE l 200 = 0 then (if isOrd l.length o = true then (wy l o, 0) else (0, 1)) else (0, chkE l 200)
theorem Length_ev (l : List S31) (o : List Int) (hn : l.length ≤ 1000) : Ev (fun k => tour_Length.f k l o) (lenE l o) ∧ Ev (fun k => swarfref38_Length.f k l o) (lenE l o) := by
  unfold tour_Length.f swarfref38_Length.f lenE
  by_cases hc : chkE l 200 = 0
  · obtain ⟨c1, c2⟩ := chkE_zero hc
    rw [if_pos hc]
    by_cases ho : isOrd l.length o = true
    · rw [if_pos ho]
      obtain ⟨o1, o2, o3, o4⟩ := isOrd_spec ho
      have hl := length_ev l c2 o (by omega) o3
      refine ⟨Ev.bind (check_ev l 200 hn) ?_, Ev.bind (rvalid_ev l 200 hn) ?_⟩
      · simp only [if_pos hc]
        refine Ev.bind (isOrder_ev l.length hn o) ?_
        simp only [if_pos ho]
        exact Ev.bind hl.1 (Ev.now _)
      · simp only [if_pos hc]
        refine Ev.bind (rorder_ev l.length hn o) ?_
        simp only [if_pos ho]
        exact Ev.bind hl.2 (Ev.now _)
    · rw [if_neg ho]
      refine ⟨Ev.bind (check_ev l 200 hn) ?_, Ev.bind (rvalid_ev l 200 hn) ?_⟩
      · simp only [if_pos hc]
        refine Ev.bind (isOrder_ev l.length hn o) ?_
        simp only [if_neg ho]
        exact Ev.now _
      · simp only [if_pos hc]
        refine Ev.bind (rorder_ev l.length hn o) ?_
        simp only [if_neg ho]
        exact Ev.now _
  · rw [if_neg hc]
    refine ⟨Ev.bind (check_ev l 200 hn) ?_, Ev.bind (rvalid_ev l 200 hn) ?_⟩
    · simp only [if_neg hc]; exact Ev.now _
    · simp only [if_neg hc]; exact Ev.now _
end Go.Proofs.Ytohjocajaanhaaa.B

/- Least spanning trees: two runs that always add the cheapest edge come to the same sum, and no spanning tree is lighter. Plain numbers and lists. -/
namespace Go.Proofs.Ytohjocajaanhaaa.Mst
set_option linter.unusedVariables false
def wt (c : Nat → Nat → Int) : List (Nat × Nat) → Int
  | [] => 0
  | e :: E => c e.1 e.2 + wt c E
theorem wt_erase (c : Nat → Nat → Int) (e : Nat × Nat) (E : List (Nat × Nat)) (h : e ∈ E) : wt c E = c e.1 e.2 + wt c (E.erase e) := by
  induction E with
  | nil => cases h
  | cons f E ih =>
    rw [List.erase_cons]
    by_cases hf : f = e
    · subst hf; simp [wt]
    · rw [if_neg (by simpa using hf)]
      have := ih ((List.mem_cons.1 h).resolve_left (fun h => hf h.symm))
      simp only [wt]; omega
inductive Conn (E : List (Nat × Nat)) (S : Nat → Prop) : Nat → Prop
  | base {x : Nat} : S x → Conn E S x
  | step {a b : Nat} : Conn E S a → ((a, b) ∈ E ∨ (b, a) ∈ E) → Conn E S b
inductive Out (E : List (Nat × Nat)) (S : Nat → Prop) (b : Nat) : Nat → Prop
  | base : ¬ S b → Out E S b b
  | step {x y : Nat} : Out E S b x → ((x, y) ∈ E ∨ (y, x) ∈ E) → ¬ S y → Out E S b y
theorem Out.not {E : List (Nat × Nat)} {S : Nat → Prop} {b x : Nat} (h : Out E S b x) : ¬ S x := by
  cases h with
  | base h => exact h
  | step _ _ h => exact h
theorem exit {E : List (Nat × Nat)} {S : Nat → Prop} {x : Nat} (h : Conn E S x) : ¬ S x → ∃ a b, S a ∧ ¬ S b ∧ ((a, b) ∈ E ∨ (b, a) ∈ E) ∧ Out E S b x := by
  induction h with
  | base h => intro hn; exact absurd h hn
  | @step a b hc he ih =>
    intro hn
    by_cases ha : S a
    · exact ⟨a, b, ha, hn, he, .base hn⟩
    · obtain ⟨p, q, h1, h2, h3, h4⟩ := ih ha
      exact ⟨p, q, h1, h2, h3, .step h4 he hn⟩
theorem Out.back {E : List (Nat × Nat)} {S : Nat → Prop} {b x : Nat} (h : Out E S b x) (e : Nat × Nat) (he : S e.1 ∨ S e.2) (T : Nat → Prop) : Conn (E.erase e) T x → Conn (E.erase e) T b := by
  induction h with
  | base _ => exact id
  | @step x y hx hxy hy ih =>
    intro hc
    refine ih (.step hc ?_)
    have hnx := hx.not
    rcases hxy with h | h
    · refine .inr ((List.mem_erase_of_ne ?_).2 h)
      rintro rfl
      exact he.elim hnx hy
    · refine .inl ((List.mem_erase_of_ne ?_).2 h)
      rintro rfl
      exact he.elim hy hnx
/-- A run that always adds a cheapest edge out of S: its number of steps and its sum. -/
inductive Run (c : Nat → Nat → Int) (n : Nat) : (Nat → Prop) → Nat → Int → Prop
  | nil {S : Nat → Prop} : (∀ x, x < n → S x) → Run c n S 0 0
  | cons {S : Nat → Prop} {u v k : Nat} {t : Int} : S u → u < n → ¬ S v → v < n → (∀ a b, S a → a < n → ¬ S b → b < n → c u v ≤ c a b) → Run c n (fun x => S x ∨ x = v) k t → Run c n S (k + 1) (c u v + t)
/-- Edges that are added one after the other, each to a new number. -/
inductive Grow (n : Nat) : (Nat → Prop) → List (Nat × Nat) → Prop
  | nil {S : Nat → Prop} : (∀ x, x < n → S x) → Grow n S []
  | cons {S : Nat → Prop} {u v : Nat} {E : List (Nat × Nat)} : S u → u < n → ¬ S v → v < n → Grow n (fun x => S x ∨ x = v) E → Grow n S ((u, v) :: E)
theorem conn_cons {n : Nat} {E : List (Nat × Nat)} {S : Nat → Prop} {u v x : Nat} (hu : S u) (h : Conn E (fun x => S x ∨ x = v) x) : Conn ((u, v) :: E) S x := by
  induction h with
  | base h =>
    rcases h with h | rfl
    · exact .base h
    · exact .step (.base hu) (.inl List.mem_cons_self)
  | step _ he ih => exact .step ih (he.elim (fun h => .inl (List.mem_cons_of_mem _ h)) (fun h => .inr (List.mem_cons_of_mem _ h)))
theorem Grow.conn {n : Nat} {S : Nat → Prop} {E : List (Nat × Nat)} (h : Grow n S E) : ∀ x, x < n → Conn E S x := by
  induction h with
  | nil h => intro x hx; exact .base (h x hx)
  | cons hu _ _ _ _ ih => intro x hx; exact conn_cons (n := n) hu (ih x hx)
theorem Grow.lt {n : Nat} {S : Nat → Prop} {E : List (Nat × Nat)} (h : Grow n S E) : ∀ e ∈ E, e.1 < n ∧ e.2 < n := by
  induction h with
  | nil h => intro e he; cases he
  | cons hu hun _ hv _ ih =>
    intro e he
    rcases List.mem_cons.1 he with rfl | he
    · exact ⟨hun, hv⟩
    · exact ih e he
theorem Run.grow {c : Nat → Nat → Int} {n : Nat} {S : Nat → Prop} {k : Nat} {t : Int} (h : Run c n S k t) : ∃ E, Grow n S E ∧ E.length = k ∧ wt c E = t := by
  induction h with
  | nil h => exact ⟨[], .nil h, rfl, rfl⟩
  | @cons S u v k t hu hun hv hvn hm _ ih =>
    obtain ⟨E, h1, h2, h3⟩ := ih
    exact ⟨(u, v) :: E, .cons hu hun hv hvn h1, by simp [h2], by simp [wt, h3]⟩
theorem Run.least {c : Nat → Nat → Int} (sym : ∀ a b, c a b = c b a) {n : Nat} {S : Nat → Prop} {k : Nat} {t : Int} (h : Run c n S k t) :
    ∀ E, (∀ e ∈ E, e.1 < n ∧ e.2 < n) → (∀ x, x < n → Conn E S x) → E.length = k → t ≤ wt c E := by
  induction h with
  | nil h => intro E _ _ hl; rw [List.eq_nil_of_length_eq_zero hl]; exact Int.le_refl _
  | @cons S u v k t hu hun hv hvn hm _ ih =>
    intro E hlt hc hl
    obtain ⟨a, b, ha, hb, hab, ho⟩ := exit (hc v hvn) hv
    have main : ∀ e : Nat × Nat, e ∈ E → (e = (a, b) ∨ e = (b, a)) → c u v + t ≤ wt c E := by
      intro e he hor
      have hS : S e.1 ∨ S e.2 := by rcases hor with rfl | rfl; exact .inl ha; exact .inr ha
      have hcost : c u v ≤ c e.1 e.2 := by
        rcases hor with rfl | rfl
        · exact hm a b ha (hlt _ he).1 hb (hlt _ he).2
        · have := hm a b ha (hlt _ he).2 hb (hlt _ he).1
          rw [sym a b] at this; exact this
      rw [wt_erase c e E he]
      have hob := ho.back e hS (fun x => S x ∨ x = v) (.base (.inr rfl))
      have : t ≤ wt c (E.erase e) := by
        refine ih (E.erase e) (fun f hf => hlt f (List.mem_of_mem_erase hf)) (fun x hx => ?_) (by rw [List.length_erase_of_mem he]; omega)
        have := hc x hx
        clear hx
        induction this with
        | base h => exact .base (.inl h)
        | @step p q hp hpq ihp =>
          by_cases h1 : (p, q) = e ∨ (q, p) = e
          · have hq : q = a ∨ q = b := by
              rcases h1 with h1 | h1 <;> rcases hor with h2 | h2 <;> rw [h2] at h1 <;> injection h1 with h3 h4 <;> first | exact .inl h3 | exact .inl h4 | exact .inr h3 | exact .inr h4
            rcases hq with rfl | rfl
            · exact .base (.inl ha)
            · exact hob
          · have h2 := not_or.1 h1
            exact .step ihp (hpq.elim (fun h => .inl ((List.mem_erase_of_ne h2.1).2 h)) (fun h => .inr ((List.mem_erase_of_ne h2.2).2 h)))
      omega
    rcases hab with h | h
    · exact main _ h (.inl rfl)
    · exact main _ h (.inr rfl)
/-- No growth is lighter than a run. -/
theorem Run.le {c : Nat → Nat → Int} (sym : ∀ a b, c a b = c b a) {n : Nat} {S : Nat → Prop} {k : Nat} {t : Int} (h : Run c n S k t) {E : List (Nat × Nat)} (hg : Grow n S E) (hl : E.length = k) : t ≤ wt c E :=
  h.least sym E hg.lt hg.conn hl
/-- Two runs come to one sum. -/
theorem Run.same {c : Nat → Nat → Int} (sym : ∀ a b, c a b = c b a) {n : Nat} {S : Nat → Prop} {k : Nat} {t u : Int} (h : Run c n S k t) (g : Run c n S k u) : t = u := by
  obtain ⟨E, h1, h2, h3⟩ := h.grow
  obtain ⟨F, g1, g2, g3⟩ := g.grow
  have a := h.le sym g1 g2
  have b := g.le sym h1 h2
  omega
end Go.Proofs.Ytohjocajaanhaaa.Mst

-- PRINTED by print.py (a twelfth state) out of the translation. Not trusted: Lean checks it.

namespace Go.Proofs.Ytohjocajaanhaaa.P
open Go.RowKit Go.Proofs.YtohjocajaanhaaaW.PrintWords Go.Proofs.YtohjocajaanhaaaW.PrintLast Go.Proofs.YtohjocajaanhaaaW.PrintMore
attribute [local go_sem] max2_int min2_int max_two min_two max_three min_three max_four min_four   -- for this text's walks alone
set_option linter.unusedVariables false
set_option linter.unusedSimpArgs false

/-! ### swarfref38_has: function 35 -/
def swarfref38_has.l0 : Nat → List Int → Int → Int → Option (Bool)
 | 0, _, _, _ => none
 | k + 1, x0, x1, x5 => if x5 < (x0.length : Int) then (if 0 ≤ x5 then (if (rd x0 x5) = x1 then (some true) else (swarfref38_has.l0 k x0 x1 (wrap64 (x5 + 1)))) else (none)) else (some false)
def swarfref38_has.f (k : Nat) (l0 : List Int) (a1 : Int) : Option (Bool) := swarfref38_has.l0 k l0 a1 0
theorem swarfref38_has.mono_l : ∀ k, (∀ y0 y1 y2, LeO (swarfref38_has.l0 k y0 y1 y2) (swarfref38_has.l0 (k + 1) y0 y1 y2))
 | 0 => fun _ _ _ r h => by simp [swarfref38_has.l0] at h
 | k + 1 => by
  have ih0 := swarfref38_has.mono_l k
  ·intro y0 y1 y2
   unfold swarfref38_has.l0
   repeat' first
   | (with_reducible exact ih0 _ _ _)
   | (with_reducible exact LeO.refl _)
   | (with_reducible exact LeO.none _)
   | (with_reducible refine LeO.ite ?_ ?_)
   | (with_reducible refine LeO.bind ?_ (fun _ => ?_))
   | exact ih0 _ _ _
   | exact LeO.none _
   | refine LeO.ite ?_ ?_
   | refine LeO.bind ?_ (fun _ => ?_)
theorem swarfref38_has.mono : ∀ a0 a1 k, LeO (swarfref38_has.f k a0 a1) (swarfref38_has.f (k + 1) a0 a1) := by
 intro a0 a1 k
 have ih0 := swarfref38_has.mono_l k
 unfold swarfref38_has.f
 repeat' first
   | (with_reducible exact ih0 _ _ _)
   | (with_reducible exact LeO.refl _)
   | (with_reducible exact LeO.none _)
   | (with_reducible refine LeO.ite ?_ ?_)
   | (with_reducible refine LeO.bind ?_ (fun _ => ?_))
   | exact ih0 _ _ _
   | exact LeO.none _
   | refine LeO.ite ?_ ?_
   | refine LeO.bind ?_ (fun _ => ?_)
set_option maxHeartbeats 8000000 in
set_option maxRecDepth 100000 in
theorem swarfref38_has.calls (k : Nat) (A0 : Option Addr) (c0 : Nat) (l0 : List Int) (a1 : Int) (r : Bool) (w : World) (hr0 : Kd.C (Kd.int .i64) w A0 l0.length l0) (hc0 : l0.length ≤ c0) (h : swarfref38_has.f k l0 a1 = some r) :
  Calls Try.prog 35 #[.slice A0 l0.length c0, .int .i64 a1] w fun e w' => e = .returned (.bool r) ∧ Drawn0 w w' := by
 have HR0 := Aside0.mk hr0
 have HC0 := Aside0.mk hc0
 clear hr0 hc0
 have H : (swarfref38_has.l0 k l0 a1 0) = some r := h
 clear h
 have H' := Aside0.mk H
 clear H
 go_enter Try.func35, Try.ntmps35
 go_wp2
 go_loopg [5] k (fun kq v5 w' => ∃ (x5_1 : Int), v5 = .int .i64 x5_1 ∧ Aside0 (swarfref38_has.l0 kq l0 a1 x5_1 = some r) ∧ Aside0 (kq ≤ k) ∧ Drawn0 w w')
 case atStart => exact ⟨(0), (by first | rfl | (simp; done) | (simp [*]; done)), H', ⟨Nat.le_refl _⟩, by repeat (first | exact Drawn0.refl _ | apply Drawn0.step)⟩
 case round =>
  clear H'; try clear p2
  obtain ⟨x5_1, rfl, HA, HK1, ⟨m1, rfl⟩⟩ := hrel
  cases gk with
  | zero => exact absurd HA.out (by simp [swarfref38_has.l0])
  | succ k1 =>
   have H := HA.out
   clear HA
   simp only [swarfref38_has.l0] at H
   by_cases c3 : x5_1 < (l0.length : Int)
   ·rw [if_pos c3] at H
    have c3b0 : decide (x5_1 < (l0.length : Int)) = true := decide_eq_true c3
    clear c3
    by_cases c4 : 0 ≤ x5_1
    ·rw [if_pos c4] at H
     have c4b0 : decide (0 ≤ x5_1) = true := decide_eq_true c4
     clear c4
     by_cases c5 : (rd l0 x5_1) = a1
     ·rw [if_pos c5] at H
      have c5b0 : ((rd l0 x5_1) == a1) = true := beq_iff_eq.mpr c5
      have c5b1 : ((rd l0 x5_1) != a1) = false := bne_eq_false_iff_eq.mpr c5
      clear c5; obtain rfl := Option.some.inj H
      have p273 : 0 ≤ (x5_1 : Int) := of_decide_eq_true (by first | (with_reducible assumption) | assumption)
      have q273 : x5_1 < (l0.length : Int) := of_decide_eq_true (by first | (with_reducible assumption) | assumption)
      obtain ⟨ad273, e273, hx273_0⟩ := Kd.at_int HR0.out x5_1 p273 q273
      cases e273; replace p273 := eq_true p273; replace q273 := eq_true q273; go_wp2; go_ret
      exact ⟨by first | rfl | (simp; done) | (simp [*]; done), by repeat (first | exact Drawn0.refl _ | apply Drawn0.step)⟩
     ·rw [if_neg c5] at H
      have c5b0 : ((rd l0 x5_1) == a1) = false := beq_eq_false_iff_ne.mpr c5
      have c5b1 : ((rd l0 x5_1) != a1) = true := bne_iff_ne.mpr c5
      have H' := Aside0.mk H; clear H
      have p273 : 0 ≤ (x5_1 : Int) := of_decide_eq_true (by first | (with_reducible assumption) | assumption)
      have q273 : x5_1 < (l0.length : Int) := of_decide_eq_true (by first | (with_reducible assumption) | assumption)
      obtain ⟨ad273, e273, hx273_0⟩ := Kd.at_int HR0.out x5_1 p273 q273
      cases e273; replace p273 := eq_true p273; replace q273 := eq_true q273; go_wp2
      go_roundg k1
      case measure => have := HK1.out; omega
      case rel => exact ⟨(wrap64 (x5_1 + 1)), (by first | rfl | (simp; done) | (simp [*]; done)), H', ⟨by have := HK1.out; omega⟩, by repeat (first | exact Drawn0.refl _ | apply Drawn0.step)⟩
    ·rw [if_neg c4] at H
     exact absurd H (by simp)
   ·rw [if_neg c3] at H
    have c3b0 : decide (x5_1 < (l0.length : Int)) = false := decide_eq_false c3
    clear c3; obtain rfl := Option.some.inj H; go_wp2; go_ret
    exact ⟨by first | rfl | (simp; done) | (simp [*]; done), by repeat (first | exact Drawn0.refl _ | apply Drawn0.step)⟩

end Go.Proofs.Ytohjocajaanhaaa.P
