import Derived.Test.YtbbkclcfmcjlgaaT7M21
import Derived.Test.YtbbkclcfmcjlgaaT7M23
import Derived.Test.YtbbkclcfmcjlgaaT7M26
import Derived.Test.YtbbkclcfmcjlgaaT7M27
import Derived.Deep.DeepMust


namespace Go.Proofs.Ytbbkclcfmcjlgaa.P
open Go.RowKit Go.Proofs.YtbbkclcfmcjlgaaW.PrintWords Go.Proofs.YtbbkclcfmcjlgaaW.PrintLast Go.Proofs.YtbbkclcfmcjlgaaW.PrintMore
attribute [local go_sem] max2_int min2_int max_two min_two max_three min_three max_four min_four
set_option linter.unusedVariables false
set_option linter.unusedSimpArgs false

mutual
def swarfref29_Linear.j0 : Nat → Int → List (S47) → List Int → Bool → Option (Bool)
 | 0, _, _, _, _ => none
 | k + 1, x0, x1, x2, x17 => if x17 = true then (some false) else (swarfref29_Linear.l0 k x0 x1 x2 0)
def swarfref29_Linear.l0 : Nat → Int → List (S47) → List Int → Int → Option (Bool)
 | 0, _, _, _, _ => none
 | k + 1, x0, x1, x2, x7 => if x7 < x0 then (if 0 ≤ x7 then (if x7 < (x2.length : Int) then (if (rd x2 x7) < 0 then (some false) else (if (rd x2 x7) ≥ x0 then (some false) else (if x7 ≤ (x2.length : Int) then ((swarfref29_in.f k (x2.take (x7 : Int).toNat) (rd x2 x7)).bind fun t247 => (if t247 = true then (some false) else ((swarfref29_ready.f k x1 (x2.take (x7 : Int).toNat) (rd x2 x7)).bind fun t250 => (if t250 = true then (swarfref29_Linear.l0 k x0 x1 x2 (wrap64 (x7 + 1))) else (some false))))) else (none)))) else (none)) else (none)) else (some true)
end
def swarfref29_Linear.f (k : Nat) (a0 : Int) (l1 : List (S47)) (l2 : List Int) : Option (Bool) := (swarfref29_Valid.f k a0 l1).bind fun t242 => (if t242 = 0 then (swarfref29_Linear.j0 k a0 l1 l2 ((l2.length : Int) != a0)) else (swarfref29_Linear.j0 k a0 l1 l2 true))
def swarfref29_Linear.T6 : Bool × List (List Nat × List Nat) := (true, [([], []), ([], []), ([0, 1], [0, 1]), ([2], [2]), ([3], [3]), ([4], [4]), ([5], [5]), ([5], [5]), ([6, 7, 5], [5, 6, 7]), ([8, 5], [5, 8]), ([5], [5]), ([9, 10, 5], [5, 9, 10]), ([5, 11], [5, 11]), ([12, 5], [12]), ([13], [13]), ([13], [13]), ([14, 15, 13], [13, 14, 15]), ([13], [13]), ([13], [13]), ([17, 18, 13], [13, 17, 18]), ([19, 13], [13, 19]), ([16, 20, 13, 13], [13, 16, 20]), ([13, 21], [13, 21]), ([22, 21], [22]), ([23], [23]), ([23], [23]), ([23], [23]), ([25, 26, 23], [23, 25, 26]), ([23], [23]), ([23], [23]), ([28, 29, 23], [23, 28, 29]), ([30, 23], [23, 30]), ([24, 27, 31, 23, 23], [23, 24, 27, 31]), ([32, 23], [23, 32]), ([23, 33], [23, 33])])
def swarfref29_Linear.B6 : List Nat := [0, 0, 3, 7, 15, 31, 63, 63, 255, 511, 63, 2047, 4095, 8191, 16383, 16383, 65535, 16383, 16383, 409599, 933887, 2097151, 4194303, 8388607, 16777215, 16777215, 16777215, 117440511, 16777215, 16777215, 822083583, 1895825407, 4294967295, 8589934591, 17179869183]
theorem swarfref29_Linear.tab6 : rtab .any (opsOf Try.f19 6) = swarfref29_Linear.T6 := by kernel_rfl
theorem swarfref29_Linear.bits6 : waitsOk swarfref29_Linear.T6.2 swarfref29_Linear.B6 = true := by kernel_rfl
set_option maxHeartbeats 8000000 in
set_option maxRecDepth 100000 in
theorem swarfref29_Linear.calls (k : Nat) (a0 : Int) (A1 : Option Addr) (c1 : Nat) (l1 : List (S47)) (A2 : Option Addr) (c2 : Nat) (l2 : List Int) (r : Bool) (w : World) (hr1 : Kd.C k47 w A1 l1.length l1) (hc1 : l1.length ≤ c1) (hr2 : Kd.C (Kd.int .i64) w A2 l2.length l2) (hc2 : l2.length ≤ c2) (h : swarfref29_Linear.f k a0 l1 l2 = some r) :
  Calls Try.prog 19 #[.int .i64 a0, .slice A1 l1.length c1, .slice A2 l2.length c2] w fun e w' => e = .returned (.bool r) ∧ Below w.heap.size w w' := by
 have HR1 := aK hr1
 have HC1 := aK hc1
 clear hr1 hc1
 have HR2 := aK hr2
 have HC2 := aK hc2
 clear hr2 hc2
 have HB := aK (Below.refl w.heap.size w)
 have H : ((swarfref29_Valid.f k a0 l1).bind fun t242 => (if t242 = 0 then (swarfref29_Linear.j0 k a0 l1 l2 ((l2.length : Int) != a0)) else (swarfref29_Linear.j0 k a0 l1 l2 true))) = some r := h
 clear h
 have HC4 := aK H
 clear H
 go_enter Try.func19, Try.ntmps19
 go_upto_region 1 with (fail)
 go_cut [17] (fun v17 wc => ∃ (kq : Nat) (x17_3 : Bool), v17 = .bool x17_3 ∧ Aside0 (swarfref29_Linear.j0 kq a0 l1 l2 x17_3 = some r) ∧ Aside0 (kq ≤ k) ∧ Aside0 (Below w.heap.size w wc))
 case first =>
  have H := HC4.out
  clear HC4; replace H := oB_ H
  obtain ⟨t242, A50, H⟩ := H
  replace H : (if t242 = 0 then (swarfref29_Linear.j0 k a0 l1 l2 ((l2.length : Int) != a0)) else (swarfref29_Linear.j0 k a0 l1 l2 true)) = some r := H
  have A5 := aK A50; clear A50
  by_cases c6 : t242 = 0
  ·rw [if_pos c6] at H
   have c6b0 : (t242 == 0) = true := beq_iff_eq.mpr c6
   have c6b1 : (t242 != 0) = false := bne_eq_false_iff_eq.mpr c6
   clear c6
   (first | rw [c6b0] | (simp only [i64_w, i32_w]; rw [c6b0]) | skip)
   have H' := aK H; clear H
   go_wp2_with (first | ((with_reducible refine gate_callee (f := 21) rfl ?_); refine goesL_ (some 10) rfl rfl Try.func21 (by kernel_rfl) rfl #[.int .i64 a0, .slice A1 l1.length c1] rfl (by (try simp only [List.map_toArray, List.map_cons, List.map_nil]); first | done | rfl | (simp only [List.length_drop, List.length_take]; rfl)) ?_; (with_reducible refine (swarfref29_Valid.calls k a0 _ _ l1 t242 _ ?side1 ?side2 A5.out).mono ?_); (case side1 => repeat (first | exact (Kd.C_below HR1.out HB.out) | (with_reducible refine Kd.C_alloc ?_ _) | (with_reducible refine Kd.C_drewN ?_ _) | (with_reducible refine Kd.C_drew ?_))); (case side2 => exact HC1.out); rintro e w' ⟨rfl, ⟨nd, rfl⟩⟩; refine ⟨_, rfl, ?_⟩))
   go_meet
   case rel => exact ⟨_, (((l2.length : Int) != a0)), (by first | rfl | (simp; done) | (simp [*]; done)), H', ⟨by first | omega | exact Nat.le_refl _⟩, ⟨by repeat (first | (with_reducible first | exact HB.out | apply bA_ | apply bN_ | apply bD_) | exact HB.out)⟩⟩
  ·rw [if_neg c6] at H
   have c6b0 : (t242 == 0) = false := beq_eq_false_iff_ne.mpr c6
   have c6b1 : (t242 != 0) = true := bne_iff_ne.mpr c6
   (first | rw [c6b0] | (simp only [i64_w, i32_w]; rw [c6b0]) | skip)
   have H' := aK H; clear H
   go_wp2_with (first | ((with_reducible refine gate_callee (f := 21) rfl ?_); refine goesL_ (some 10) rfl rfl Try.func21 (by kernel_rfl) rfl #[.int .i64 a0, .slice A1 l1.length c1] rfl (by (try simp only [List.map_toArray, List.map_cons, List.map_nil]); first | done | rfl | (simp only [List.length_drop, List.length_take]; rfl)) ?_; (with_reducible refine (swarfref29_Valid.calls k a0 _ _ l1 t242 _ ?side1 ?side2 A5.out).mono ?_); (case side1 => repeat (first | exact (Kd.C_below HR1.out HB.out) | (with_reducible refine Kd.C_alloc ?_ _) | (with_reducible refine Kd.C_drewN ?_ _) | (with_reducible refine Kd.C_drew ?_))); (case side2 => exact HC1.out); rintro e w' ⟨rfl, ⟨nd, rfl⟩⟩; refine ⟨_, rfl, ?_⟩))
   go_meet
   case rel => exact ⟨_, (true), (by first | rfl | (simp; done) | (simp [*]; done)), H', ⟨by first | omega | exact Nat.le_refl _⟩, ⟨by repeat (first | (with_reducible first | exact HB.out | apply bA_ | apply bN_ | apply bD_) | exact HB.out)⟩⟩
 case rest =>
  clear HC4; try clear c1; try clear c2; try clear p2; try clear c6; try clear c6b0; try clear c6b1
  obtain ⟨kq, x17_3, rfl, HA, HJ3, HB⟩ := hcut
  cases kq with
  | zero => exact absurd HA.out (by simp [swarfref29_Linear.j0])
  | succ kj3 =>
   have H := HA.out
   clear HA
   simp only [swarfref29_Linear.j0] at H
   by_cases c7 : x17_3 = true
   ·subst c7
    have H1 : (some false) = some r := by rw [if_pos rfl] at H; exact H
    clear H; have H := H1; clear H1; obtain rfl := Option.some.inj H; go_wp2; go_ret
    exact ⟨by first | rfl | (simp [errW_none, errW_some] <;> rfl) | (simp [*, errW_none, errW_some] <;> rfl), by repeat (first | (with_reducible first | exact HB.out | apply bA_ | apply bN_ | apply bD_) | exact HB.out)⟩
   ·replace c7 := Bool.eq_false_iff.mpr c7
    subst c7
    have H1 : (swarfref29_Linear.l0 kj3 a0 l1 l2 0) = some r := by rw [if_neg (show ¬ (false = true) by decide)] at H; exact H
    clear H; have H := H1; clear H1; have H' := aK H; clear H; go_wp2
    go_loopg [7] kj3 (fun kq v7 w' => ∃ (x7_2 : Int), v7 = .int .i64 x7_2 ∧ Aside0 (swarfref29_Linear.l0 kq a0 l1 l2 x7_2 = some r) ∧ Aside0 (kq ≤ kj3) ∧ Aside0 (Below w.heap.size w w'))
    case atStart => exact ⟨(0), (by first | rfl | (simp; done) | (simp [*]; done)), H', ⟨Nat.le_refl _⟩, ⟨by repeat (first | (with_reducible first | exact HB.out | apply bA_ | apply bN_ | apply bD_) | exact HB.out)⟩⟩
    case round =>
     clear H'; try clear c1; try clear c2; try clear p2; try clear c6; try clear c6b0; try clear c6b1; try clear c7; try clear p2
     obtain ⟨x7_2, rfl, HA, HK2, HB⟩ := hrel
     cases gk with
     | zero => exact absurd HA.out (by simp [swarfref29_Linear.l0])
     | succ k2 =>
      have H := HA.out
      clear HA
      simp only [swarfref29_Linear.l0] at H
      by_cases c8 : x7_2 < a0
      ·rw [if_pos c8] at H
       have c8b0 : decide (x7_2 < a0) = true := decide_eq_true c8
       clear c8
       by_cases c9 : 0 ≤ x7_2
       ·rw [if_pos c9] at H
        have c9b0 : decide (0 ≤ x7_2) = true := decide_eq_true c9
        clear c9
        by_cases c10 : x7_2 < (l2.length : Int)
        ·rw [if_pos c10] at H
         have c10b0 : decide (x7_2 < (l2.length : Int)) = true := decide_eq_true c10
         clear c10
         by_cases c11 : (rd l2 x7_2) < 0
         ·rw [if_pos c11] at H
          have c11b0 : decide ((rd l2 x7_2) < 0) = true := decide_eq_true c11
          clear c11; obtain rfl := Option.some.inj H
          try go_wp2
          have n0_ := aK (bD_ HB.out)
          clear HB; have HB := n0_; clear n0_
          have p243 : 0 ≤ (x7_2 : Int) := of_decide_eq_true (by first | (with_reducible assumption) | assumption)
          have q243 : x7_2 < (l2.length : Int) := of_decide_eq_true (by first | (with_reducible assumption) | assumption)
          obtain ⟨ad243, e243, hx243_0⟩ := Kd.at_int HR2.out x7_2 p243 q243
          have hw243_0 := hx243_0; cases e243
          replace hx243_0 := (HB.out.cell (World.block_lt_of_cell? w _ hx243_0)).trans hx243_0
          replace p243 := eq_true p243; replace q243 := eq_true q243
          refine start_ (n := 35) (S := fun w' => w'.cell? (ad243.add (x7_2).toNat) = some (.int .i64 (rd l2 x7_2))) (ds := []) #[false, false, false, false, false, false, false, false, false, false, false, false, false, false, false, false, false, false, false, false, false, false, false, false, false, false, false, false, false, false, false, false, false, false, false] (by kernel_rfl) rfl rfl (((HB.out.cell (World.block_lt_of_cell? w _ hw243_0)).trans hw243_0)) (fun hHeld => ?_); refine with_tabW swarfref29_Linear.tab6 swarfref29_Linear.bits6 (fun HT_ HW_ => ?_)
          generalize wr.drew = w12 at HB hx243_0 hHeld ⊢
          refine pure_ (i := 0) (N := some 23) (v := ?_) (a' := ?_) #[true, false, false, false, false, false, false, false, false, false, false, false, false, false, false, false, false, false, false, false, false, false, false, false, false, false, false, false, false, false, false, false, false, false, false] rfl rfl (any_of HT_.out (by kernel_rfl)) (fun _ _ _ h => h) (Or.inl ⟨by rfl, ?_⟩) ?_ ?_
          rotate_left; ·intro w'; go_simp; with_reducible rfl
          rotate_left; ·simp only [Act.put, sA_, sZ_, sS_, i64_w, i32_w]; rfl
          refine pure_ (i := 1) (N := some 24) (v := ?_) (a' := ?_) #[true, true, false, false, false, false, false, false, false, false, false, false, false, false, false, false, false, false, false, false, false, false, false, false, false, false, false, false, false, false, false, false, false, false, false] rfl rfl (any_of HT_.out (by kernel_rfl)) (fun _ _ _ h => h) (Or.inl ⟨by rfl, ?_⟩) ?_ ?_
          rotate_left; ·intro w'; go_simp; with_reducible rfl
          rotate_left; ·simp only [Act.put, sA_, sZ_, sS_, i64_w, i32_w]; rfl
          refine pure_ (i := 2) (N := some 25) (v := ?_) (a' := ?_) #[true, true, true, false, false, false, false, false, false, false, false, false, false, false, false, false, false, false, false, false, false, false, false, false, false, false, false, false, false, false, false, false, false, false, false] rfl rfl (any_of HT_.out (by kernel_rfl)) (fun _ _ _ h => h) (Or.inl ⟨by rfl, ?_⟩) ?_ ?_
          rotate_left; ·intro w'; go_simp; with_reducible rfl
          rotate_left; ·simp only [Act.put, sA_, sZ_, sS_, i64_w, i32_w]; rfl
          refine take_ (i := 3) (N := some 26) (v := ?_) (a' := ?_) #[true, true, true, true, false, false, false, false, false, false, false, false, false, false, false, false, false, false, false, false, false, false, false, false, false, false, false, false, false, false, false, false, false, false, false] rfl rfl (take_ofW HT_.out HW_.out (by kernel_rfl)) (fun _ _ _ h => h) (Or.inl ⟨by rfl, ?_⟩) hHeld ?_ ?_
          rotate_left
          ·intro w' s0; go_simp; with_reducible rfl
          rotate_left; ·simp only [Act.put, sA_, sZ_, sS_, i64_w, i32_w]; rfl
          refine pure_ (i := 4) (N := some 27) (v := ?_) (a' := ?_) #[true, true, true, true, true, false, false, false, false, false, false, false, false, false, false, false, false, false, false, false, false, false, false, false, false, false, false, false, false, false, false, false, false, false, false] rfl rfl (any_of HT_.out (by kernel_rfl)) (fun _ _ _ h => h) (Or.inl ⟨by rfl, ?_⟩) ?_ ?_
          rotate_left; ·intro w'; go_simp; with_reducible rfl
          rotate_left; ·simp only [Act.put, sA_, sZ_, sS_, i64_w, i32_w]; rfl
          refine pure_ (i := 5) (N := some 28) (v := ?_) (a' := ?_) #[true, true, true, true, true, true, false, false, false, false, false, false, false, false, false, false, false, false, false, false, false, false, false, false, false, false, false, false, false, false, false, false, false, false, false] rfl rfl (any_of HT_.out (by kernel_rfl)) (fun _ _ _ h => h) (Or.inl ⟨by rfl, ?_⟩) ?_ ?_
          rotate_left; ·intro w'; go_simp; with_reducible rfl
          rotate_left; ·simp only [Act.put, sA_, sZ_, sS_, i64_w, i32_w]; rfl
          refine pure_ (i := 6) (N := some 29) (v := undef) (a' := ?_) #[true, true, true, true, true, true, true, false, false, false, false, false, false, false, false, false, false, false, false, false, false, false, false, false, false, false, false, false, false, false, false, false, false, false, false] rfl rfl (any_of HT_.out (by kernel_rfl)) (fun _ _ _ h => h) (Or.inr ⟨by rfl, rfl⟩) ?_ ?_
          rotate_left; ·simp only [Act.put, sA_, sZ_, sS_, i64_w, i32_w]; rfl
          refine pure_ (i := 7) (N := some 30) (v := undef) (a' := ?_) #[true, true, true, true, true, true, true, true, false, false, false, false, false, false, false, false, false, false, false, false, false, false, false, false, false, false, false, false, false, false, false, false, false, false, false] rfl rfl (any_of HT_.out (by kernel_rfl)) (fun _ _ _ h => h) (Or.inr ⟨by rfl, rfl⟩) ?_ ?_
          rotate_left; ·simp only [Act.put, sA_, sZ_, sS_, i64_w, i32_w]; rfl
          refine pure_ (i := 8) (N := some 31) (v := undef) (a' := ?_) #[true, true, true, true, true, true, true, true, true, false, false, false, false, false, false, false, false, false, false, false, false, false, false, false, false, false, false, false, false, false, false, false, false, false, false] rfl rfl (any_of HT_.out (by kernel_rfl)) (fun _ _ _ h => h) (Or.inr ⟨by rfl, rfl⟩) ?_ ?_
          rotate_left; ·simp only [Act.put, sA_, sZ_, sS_, i64_w, i32_w]; rfl
          refine pure_ (i := 9) (N := some 32) (v := undef) (a' := ?_) #[true, true, true, true, true, true, true, true, true, true, false, false, false, false, false, false, false, false, false, false, false, false, false, false, false, false, false, false, false, false, false, false, false, false, false] rfl rfl (any_of HT_.out (by kernel_rfl)) (fun _ _ _ h => h) (Or.inr ⟨by rfl, rfl⟩) ?_ ?_
          rotate_left; ·simp only [Act.put, sA_, sZ_, sS_, i64_w, i32_w]; rfl
          refine pure_ (i := 10) (N := some 33) (v := undef) (a' := ?_) #[true, true, true, true, true, true, true, true, true, true, true, false, false, false, false, false, false, false, false, false, false, false, false, false, false, false, false, false, false, false, false, false, false, false, false] rfl rfl (any_of HT_.out (by kernel_rfl)) (fun _ _ _ h => h) (Or.inr ⟨by rfl, rfl⟩) ?_ ?_
          rotate_left; ·simp only [Act.put, sA_, sZ_, sS_, i64_w, i32_w]; rfl
          refine pure_ (i := 11) (N := some 34) (v := undef) (a' := ?_) #[true, true, true, true, true, true, true, true, true, true, true, true, false, false, false, false, false, false, false, false, false, false, false, false, false, false, false, false, false, false, false, false, false, false, false] rfl rfl (any_of HT_.out (by kernel_rfl)) (fun _ _ _ h => h) (Or.inr ⟨by rfl, rfl⟩) ?_ ?_
          rotate_left; ·simp only [Act.put, sA_, sZ_, sS_, i64_w, i32_w]; rfl
          refine pure_ (i := 12) (N := some 35) (v := ?_) (a' := ?_) #[true, true, true, true, true, true, true, true, true, true, true, true, true, false, false, false, false, false, false, false, false, false, false, false, false, false, false, false, false, false, false, false, false, false, false] rfl rfl (any_of HT_.out (by kernel_rfl)) (fun _ _ _ h => h) (Or.inl ⟨by rfl, ?_⟩) ?_ ?_
          rotate_left; ·intro w'; go_simp; with_reducible rfl
          rotate_left; ·simp only [Act.put, sA_, sZ_, sS_, i64_w, i32_w]; rfl
          refine pure_ (i := 13) (N := some 36) (v := ?_) (a' := ?_) #[true, true, true, true, true, true, true, true, true, true, true, true, true, true, false, false, false, false, false, false, false, false, false, false, false, false, false, false, false, false, false, false, false, false, false] rfl rfl (any_of HT_.out (by kernel_rfl)) (fun _ _ _ h => h) (Or.inl ⟨by rfl, ?_⟩) ?_ ?_
          rotate_left; ·intro w'; go_simp; with_reducible rfl
          rotate_left; ·simp only [Act.put, sA_, sZ_, sS_, i64_w, i32_w]; rfl
          refine pure_ (i := 14) (N := some 37) (v := undef) (a' := ?_) #[true, true, true, true, true, true, true, true, true, true, true, true, true, true, true, false, false, false, false, false, false, false, false, false, false, false, false, false, false, false, false, false, false, false, false] rfl rfl (any_of HT_.out (by kernel_rfl)) (fun _ _ _ h => h) (Or.inr ⟨by rfl, rfl⟩) ?_ ?_
          rotate_left; ·simp only [Act.put, sA_, sZ_, sS_, i64_w, i32_w]; rfl
          refine pure_ (i := 15) (N := some 38) (v := undef) (a' := ?_) #[true, true, true, true, true, true, true, true, true, true, true, true, true, true, true, true, false, false, false, false, false, false, false, false, false, false, false, false, false, false, false, false, false, false, false] rfl rfl (any_of HT_.out (by kernel_rfl)) (fun _ _ _ h => h) (Or.inr ⟨by rfl, rfl⟩) ?_ ?_
          rotate_left; ·simp only [Act.put, sA_, sZ_, sS_, i64_w, i32_w]; rfl
          refine pure_ (i := 16) (N := some 39) (v := undef) (a' := ?_) #[true, true, true, true, true, true, true, true, true, true, true, true, true, true, true, true, true, false, false, false, false, false, false, false, false, false, false, false, false, false, false, false, false, false, false] rfl rfl (any_of HT_.out (by kernel_rfl)) (fun _ _ _ h => h) (Or.inr ⟨by rfl, rfl⟩) ?_ ?_
          rotate_left; ·simp only [Act.put, sA_, sZ_, sS_, i64_w, i32_w]; rfl
          refine pure_ (i := 17) (N := some 40) (v := undef) (a' := ?_) #[true, true, true, true, true, true, true, true, true, true, true, true, true, true, true, true, true, true, false, false, false, false, false, false, false, false, false, false, false, false, false, false, false, false, false] rfl rfl (any_of HT_.out (by kernel_rfl)) (fun _ _ _ h => h) (Or.inr ⟨by rfl, rfl⟩) ?_ ?_
          rotate_left; ·simp only [Act.put, sA_, sZ_, sS_, i64_w, i32_w]; rfl
          refine pure_ (i := 18) (N := some 41) (v := undef) (a' := ?_) #[true, true, true, true, true, true, true, true, true, true, true, true, true, true, true, true, true, true, true, false, false, false, false, false, false, false, false, false, false, false, false, false, false, false, false] rfl rfl (any_of HT_.out (by kernel_rfl)) (fun _ _ _ h => h) (Or.inr ⟨by rfl, rfl⟩) ?_ ?_
          rotate_left; ·simp only [Act.put, sA_, sZ_, sS_, i64_w, i32_w]; rfl
          refine pure_ (i := 19) (N := some 42) (v := undef) (a' := ?_) #[true, true, true, true, true, true, true, true, true, true, true, true, true, true, true, true, true, true, true, true, false, false, false, false, false, false, false, false, false, false, false, false, false, false, false] rfl rfl (any_of HT_.out (by kernel_rfl)) (fun _ _ _ h => h) (Or.inr ⟨by rfl, rfl⟩) ?_ ?_
          rotate_left; ·simp only [Act.put, sA_, sZ_, sS_, i64_w, i32_w]; rfl
          refine pure_ (i := 20) (N := some 43) (v := undef) (a' := ?_) #[true, true, true, true, true, true, true, true, true, true, true, true, true, true, true, true, true, true, true, true, true, false, false, false, false, false, false, false, false, false, false, false, false, false, false] rfl rfl (any_of HT_.out (by kernel_rfl)) (fun _ _ _ h => h) (Or.inr ⟨by rfl, rfl⟩) ?_ ?_
          rotate_left; ·simp only [Act.put, sA_, sZ_, sS_, i64_w, i32_w]; rfl
          refine pure_ (i := 21) (N := some 44) (v := undef) (a' := ?_) #[true, true, true, true, true, true, true, true, true, true, true, true, true, true, true, true, true, true, true, true, true, true, false, false, false, false, false, false, false, false, false, false, false, false, false] rfl rfl (any_of HT_.out (by kernel_rfl)) (fun _ _ _ h => h) (Or.inr ⟨by rfl, rfl⟩) ?_ ?_
          rotate_left; ·simp only [Act.put, sA_, sZ_, sS_, i64_w, i32_w]; rfl
          refine pure_ (i := 22) (N := some 45) (v := ?_) (a' := ?_) #[true, true, true, true, true, true, true, true, true, true, true, true, true, true, true, true, true, true, true, true, true, true, true, false, false, false, false, false, false, false, false, false, false, false, false] rfl rfl (any_of HT_.out (by kernel_rfl)) (fun _ _ _ h => h) (Or.inl ⟨by rfl, ?_⟩) ?_ ?_
          rotate_left; ·intro w'; go_simp; with_reducible rfl
          rotate_left; ·simp only [Act.put, sA_, sZ_, sS_, i64_w, i32_w]; rfl
          refine pure_ (i := 23) (N := some 46) (v := ?_) (a' := ?_) #[true, true, true, true, true, true, true, true, true, true, true, true, true, true, true, true, true, true, true, true, true, true, true, true, false, false, false, false, false, false, false, false, false, false, false] rfl rfl (any_of HT_.out (by kernel_rfl)) (fun _ _ _ h => h) (Or.inl ⟨by rfl, ?_⟩) ?_ ?_
          rotate_left; ·intro w'; go_simp; with_reducible rfl
          rotate_left; ·simp only [Act.put, sA_, sZ_, sS_, i64_w, i32_w]; rfl
          refine pure_ (i := 24) (N := some 47) (v := undef) (a' := ?_) #[true, true, true, true, true, true, true, true, true, true, true, true, true, true, true, true, true, true, true, true, true, true, true, true, true, false, false, false, false, false, false, false, false, false, false] rfl rfl (any_of HT_.out (by kernel_rfl)) (fun _ _ _ h => h) (Or.inr ⟨by rfl, rfl⟩) ?_ ?_
          rotate_left; ·simp only [Act.put, sA_, sZ_, sS_, i64_w, i32_w]; rfl
          refine pure_ (i := 25) (N := some 48) (v := undef) (a' := ?_) #[true, true, true, true, true, true, true, true, true, true, true, true, true, true, true, true, true, true, true, true, true, true, true, true, true, true, false, false, false, false, false, false, false, false, false] rfl rfl (any_of HT_.out (by kernel_rfl)) (fun _ _ _ h => h) (Or.inr ⟨by rfl, rfl⟩) ?_ ?_
          rotate_left; ·simp only [Act.put, sA_, sZ_, sS_, i64_w, i32_w]; rfl
          refine pure_ (i := 26) (N := some 49) (v := undef) (a' := ?_) #[true, true, true, true, true, true, true, true, true, true, true, true, true, true, true, true, true, true, true, true, true, true, true, true, true, true, true, false, false, false, false, false, false, false, false] rfl rfl (any_of HT_.out (by kernel_rfl)) (fun _ _ _ h => h) (Or.inr ⟨by rfl, rfl⟩) ?_ ?_
          rotate_left; ·simp only [Act.put, sA_, sZ_, sS_, i64_w, i32_w]; rfl
          refine pure_ (i := 27) (N := some 50) (v := undef) (a' := ?_) #[true, true, true, true, true, true, true, true, true, true, true, true, true, true, true, true, true, true, true, true, true, true, true, true, true, true, true, true, false, false, false, false, false, false, false] rfl rfl (any_of HT_.out (by kernel_rfl)) (fun _ _ _ h => h) (Or.inr ⟨by rfl, rfl⟩) ?_ ?_
          rotate_left; ·simp only [Act.put, sA_, sZ_, sS_, i64_w, i32_w]; rfl
          refine pure_ (i := 28) (N := some 51) (v := undef) (a' := ?_) #[true, true, true, true, true, true, true, true, true, true, true, true, true, true, true, true, true, true, true, true, true, true, true, true, true, true, true, true, true, false, false, false, false, false, false] rfl rfl (any_of HT_.out (by kernel_rfl)) (fun _ _ _ h => h) (Or.inr ⟨by rfl, rfl⟩) ?_ ?_
          rotate_left; ·simp only [Act.put, sA_, sZ_, sS_, i64_w, i32_w]; rfl
          refine pure_ (i := 29) (N := some 52) (v := undef) (a' := ?_) #[true, true, true, true, true, true, true, true, true, true, true, true, true, true, true, true, true, true, true, true, true, true, true, true, true, true, true, true, true, true, false, false, false, false, false] rfl rfl (any_of HT_.out (by kernel_rfl)) (fun _ _ _ h => h) (Or.inr ⟨by rfl, rfl⟩) ?_ ?_
          rotate_left; ·simp only [Act.put, sA_, sZ_, sS_, i64_w, i32_w]; rfl
          refine pure_ (i := 30) (N := some 53) (v := undef) (a' := ?_) #[true, true, true, true, true, true, true, true, true, true, true, true, true, true, true, true, true, true, true, true, true, true, true, true, true, true, true, true, true, true, true, false, false, false, false] rfl rfl (any_of HT_.out (by kernel_rfl)) (fun _ _ _ h => h) (Or.inr ⟨by rfl, rfl⟩) ?_ ?_
          rotate_left; ·simp only [Act.put, sA_, sZ_, sS_, i64_w, i32_w]; rfl
          refine pure_ (i := 31) (N := some 54) (v := undef) (a' := ?_) #[true, true, true, true, true, true, true, true, true, true, true, true, true, true, true, true, true, true, true, true, true, true, true, true, true, true, true, true, true, true, true, true, false, false, false] rfl rfl (any_of HT_.out (by kernel_rfl)) (fun _ _ _ h => h) (Or.inr ⟨by rfl, rfl⟩) ?_ ?_
          rotate_left; ·simp only [Act.put, sA_, sZ_, sS_, i64_w, i32_w]; rfl
          refine pure_ (i := 32) (N := some 55) (v := undef) (a' := ?_) #[true, true, true, true, true, true, true, true, true, true, true, true, true, true, true, true, true, true, true, true, true, true, true, true, true, true, true, true, true, true, true, true, true, false, false] rfl rfl (any_of HT_.out (by kernel_rfl)) (fun _ _ _ h => h) (Or.inr ⟨by rfl, rfl⟩) ?_ ?_
          rotate_left; ·simp only [Act.put, sA_, sZ_, sS_, i64_w, i32_w]; rfl
          refine pure_ (i := 33) (N := some 56) (v := undef) (a' := ?_) #[true, true, true, true, true, true, true, true, true, true, true, true, true, true, true, true, true, true, true, true, true, true, true, true, true, true, true, true, true, true, true, true, true, true, false] rfl rfl (any_of HT_.out (by kernel_rfl)) (fun _ _ _ h => h) (Or.inr ⟨by rfl, rfl⟩) ?_ ?_
          rotate_left; ·simp only [Act.put, sA_, sZ_, sS_, i64_w, i32_w]; rfl
          refine pure_ (i := 34) (N := some 57) (v := ?_) (a' := ?_) #[true, true, true, true, true, true, true, true, true, true, true, true, true, true, true, true, true, true, true, true, true, true, true, true, true, true, true, true, true, true, true, true, true, true, true] rfl rfl (any_of HT_.out (by kernel_rfl)) (fun _ _ _ h => h) (Or.inl ⟨by rfl, ?_⟩) ?_ ?_
          rotate_left; ·intro w'; go_simp; with_reducible rfl
          rotate_left; ·simp only [Act.put, sA_, sZ_, sS_, i64_w, i32_w]; rfl
          refine done_ (done_of HT_.out (by kernel_rfl)) ?_
          try go_wp2
          go_ret
          exact ⟨by first | rfl | (simp [errW_none, errW_some] <;> rfl) | (simp [*, errW_none, errW_some] <;> rfl), by repeat (first | (with_reducible first | exact HB.out | apply bA_ | apply bN_ | apply bD_) | exact HB.out)⟩
         ·rw [if_neg c11] at H
          have c11b0 : decide ((rd l2 x7_2) < 0) = false := decide_eq_false c11
          clear c11
          by_cases c13 : (rd l2 x7_2) ≥ a0
          ·rw [if_pos c13] at H
           have c13b0 : decide (a0 ≤ (rd l2 x7_2)) = true := decide_eq_true c13
           clear c13; obtain rfl := Option.some.inj H
           try go_wp2
           have n0_ := aK (bD_ HB.out)
           clear HB; have HB := n0_; clear n0_
           have p243 : 0 ≤ (x7_2 : Int) := of_decide_eq_true (by first | (with_reducible assumption) | assumption)
           have q243 : x7_2 < (l2.length : Int) := of_decide_eq_true (by first | (with_reducible assumption) | assumption)
           obtain ⟨ad243, e243, hx243_0⟩ := Kd.at_int HR2.out x7_2 p243 q243
           have hw243_0 := hx243_0; cases e243
           replace hx243_0 := (HB.out.cell (World.block_lt_of_cell? w _ hx243_0)).trans hx243_0
           replace p243 := eq_true p243; replace q243 := eq_true q243
           have p244 : 0 ≤ (x7_2 : Int) := of_decide_eq_true (by first | (with_reducible assumption) | assumption)
           have q244 : x7_2 < (l2.length : Int) := of_decide_eq_true (by first | (with_reducible assumption) | assumption)
           obtain ⟨ad244, e244, hx244_0⟩ := Kd.at_int HR2.out x7_2 p244 q244
           have hw244_0 := hx244_0
           obtain rfl : ad243 = ad244 := (by injection e244)
           replace hx244_0 := (HB.out.cell (World.block_lt_of_cell? w _ hx244_0)).trans hx244_0
           replace p244 := eq_true p244; replace q244 := eq_true q244
           refine start_ (n := 35) (S := fun w' => w'.cell? (ad243.add (x7_2).toNat) = some (.int .i64 (rd l2 x7_2)) ∧ w'.cell? (ad243.add (x7_2).toNat) = some (.int .i64 (rd l2 x7_2))) (ds := []) #[false, false, false, false, false, false, false, false, false, false, false, false, false, false, false, false, false, false, false, false, false, false, false, false, false, false, false, false, false, false, false, false, false, false, false] (by kernel_rfl) rfl rfl ⟨((HB.out.cell (World.block_lt_of_cell? w _ hw243_0)).trans hw243_0), ((HB.out.cell (World.block_lt_of_cell? w _ hw244_0)).trans hw244_0)⟩ (fun hHeld => ?_); refine with_tabW swarfref29_Linear.tab6 swarfref29_Linear.bits6 (fun HT_ HW_ => ?_)
           generalize wr.drew = w14 at HB hx243_0 hx244_0 hHeld ⊢
           refine pure_ (i := 0) (N := some 23) (v := ?_) (a' := ?_) #[true, false, false, false, false, false, false, false, false, false, false, false, false, false, false, false, false, false, false, false, false, false, false, false, false, false, false, false, false, false, false, false, false, false, false] rfl rfl (any_of HT_.out (by kernel_rfl)) (fun _ _ _ h => h) (Or.inl ⟨by rfl, ?_⟩) ?_ ?_
           rotate_left; ·intro w'; go_simp; with_reducible rfl
           rotate_left; ·simp only [Act.put, sA_, sZ_, sS_, i64_w, i32_w]; rfl
           refine pure_ (i := 1) (N := some 24) (v := ?_) (a' := ?_) #[true, true, false, false, false, false, false, false, false, false, false, false, false, false, false, false, false, false, false, false, false, false, false, false, false, false, false, false, false, false, false, false, false, false, false] rfl rfl (any_of HT_.out (by kernel_rfl)) (fun _ _ _ h => h) (Or.inl ⟨by rfl, ?_⟩) ?_ ?_
           rotate_left; ·intro w'; go_simp; with_reducible rfl
           rotate_left; ·simp only [Act.put, sA_, sZ_, sS_, i64_w, i32_w]; rfl
           refine pure_ (i := 2) (N := some 25) (v := ?_) (a' := ?_) #[true, true, true, false, false, false, false, false, false, false, false, false, false, false, false, false, false, false, false, false, false, false, false, false, false, false, false, false, false, false, false, false, false, false, false] rfl rfl (any_of HT_.out (by kernel_rfl)) (fun _ _ _ h => h) (Or.inl ⟨by rfl, ?_⟩) ?_ ?_
           rotate_left; ·intro w'; go_simp; with_reducible rfl
           rotate_left; ·simp only [Act.put, sA_, sZ_, sS_, i64_w, i32_w]; rfl
           refine take_ (i := 3) (N := some 26) (v := ?_) (a' := ?_) #[true, true, true, true, false, false, false, false, false, false, false, false, false, false, false, false, false, false, false, false, false, false, false, false, false, false, false, false, false, false, false, false, false, false, false] rfl rfl (take_ofW HT_.out HW_.out (by kernel_rfl)) (fun _ _ _ h => h) (Or.inl ⟨by rfl, ?_⟩) hHeld ?_ ?_
           rotate_left
           ·rintro w' ⟨s0, s1⟩; go_simp; with_reducible rfl
           rotate_left; ·simp only [Act.put, sA_, sZ_, sS_, i64_w, i32_w]; rfl
           refine pure_ (i := 4) (N := some 27) (v := ?_) (a' := ?_) #[true, true, true, true, true, false, false, false, false, false, false, false, false, false, false, false, false, false, false, false, false, false, false, false, false, false, false, false, false, false, false, false, false, false, false] rfl rfl (any_of HT_.out (by kernel_rfl)) (fun _ _ _ h => h) (Or.inl ⟨by rfl, ?_⟩) ?_ ?_
           rotate_left; ·intro w'; go_simp; with_reducible rfl
           rotate_left; ·simp only [Act.put, sA_, sZ_, sS_, i64_w, i32_w]; rfl
           refine pure_ (i := 5) (N := some 28) (v := ?_) (a' := ?_) #[true, true, true, true, true, true, false, false, false, false, false, false, false, false, false, false, false, false, false, false, false, false, false, false, false, false, false, false, false, false, false, false, false, false, false] rfl rfl (any_of HT_.out (by kernel_rfl)) (fun _ _ _ h => h) (Or.inl ⟨by rfl, ?_⟩) ?_ ?_
           rotate_left; ·intro w'; go_simp; with_reducible rfl
           rotate_left; ·simp only [Act.put, sA_, sZ_, sS_, i64_w, i32_w]; rfl
           refine pure_ (i := 6) (N := some 29) (v := ?_) (a' := ?_) #[true, true, true, true, true, true, true, false, false, false, false, false, false, false, false, false, false, false, false, false, false, false, false, false, false, false, false, false, false, false, false, false, false, false, false] rfl rfl (any_of HT_.out (by kernel_rfl)) (fun _ _ _ h => h) (Or.inl ⟨by rfl, ?_⟩) ?_ ?_
           rotate_left; ·intro w'; go_simp; with_reducible rfl
           rotate_left; ·simp only [Act.put, sA_, sZ_, sS_, i64_w, i32_w]; rfl
           refine pure_ (i := 7) (N := some 30) (v := ?_) (a' := ?_) #[true, true, true, true, true, true, true, true, false, false, false, false, false, false, false, false, false, false, false, false, false, false, false, false, false, false, false, false, false, false, false, false, false, false, false] rfl rfl (any_of HT_.out (by kernel_rfl)) (fun _ _ _ h => h) (Or.inl ⟨by rfl, ?_⟩) ?_ ?_
           rotate_left; ·intro w'; go_simp; with_reducible rfl
           rotate_left; ·simp only [Act.put, sA_, sZ_, sS_, i64_w, i32_w]; rfl
           refine pure_ (i := 8) (N := some 31) (v := ?_) (a' := ?_) #[true, true, true, true, true, true, true, true, true, false, false, false, false, false, false, false, false, false, false, false, false, false, false, false, false, false, false, false, false, false, false, false, false, false, false] rfl rfl (any_of HT_.out (by kernel_rfl)) (fun _ _ _ h => h) (Or.inl ⟨by rfl, ?_⟩) ?_ ?_
           rotate_left; ·intro w'; go_simp; with_reducible rfl
           rotate_left; ·simp only [Act.put, sA_, sZ_, sS_, i64_w, i32_w]; rfl
           refine pure_ (i := 10) (N := some 33) (v := ?_) (a' := ?_) #[true, true, true, true, true, true, true, true, true, false, true, false, false, false, false, false, false, false, false, false, false, false, false, false, false, false, false, false, false, false, false, false, false, false, false] rfl rfl (any_of HT_.out (by kernel_rfl)) (fun _ _ _ h => h) (Or.inl ⟨by rfl, ?_⟩) ?_ ?_
           rotate_left; ·intro w'; go_simp; with_reducible rfl
           rotate_left; ·simp only [Act.put, sA_, sZ_, sS_, i64_w, i32_w]; rfl
           refine take_ (i := 9) (N := some 32) (v := ?_) (a' := ?_) #[true, true, true, true, true, true, true, true, true, true, true, false, false, false, false, false, false, false, false, false, false, false, false, false, false, false, false, false, false, false, false, false, false, false, false] rfl rfl (take_ofW HT_.out HW_.out (by kernel_rfl)) (fun _ _ _ h => h) (Or.inl ⟨by rfl, ?_⟩) hHeld ?_ ?_
           rotate_left
           ·rintro w' ⟨s0, s1⟩; go_simp; with_reducible rfl
           rotate_left; ·simp only [Act.put, sA_, sZ_, sS_, i64_w, i32_w]; rfl
           refine pure_ (i := 11) (N := some 34) (v := ?_) (a' := ?_) #[true, true, true, true, true, true, true, true, true, true, true, true, false, false, false, false, false, false, false, false, false, false, false, false, false, false, false, false, false, false, false, false, false, false, false] rfl rfl (any_of HT_.out (by kernel_rfl)) (fun _ _ _ h => h) (Or.inl ⟨by rfl, ?_⟩) ?_ ?_
           rotate_left; ·intro w'; go_simp; with_reducible rfl
           rotate_left; ·simp only [Act.put, sA_, sZ_, sS_, i64_w, i32_w]; rfl
           refine pure_ (i := 12) (N := some 35) (v := ?_) (a' := ?_) #[true, true, true, true, true, true, true, true, true, true, true, true, true, false, false, false, false, false, false, false, false, false, false, false, false, false, false, false, false, false, false, false, false, false, false] rfl rfl (any_of HT_.out (by kernel_rfl)) (fun _ _ _ h => h) (Or.inl ⟨by rfl, ?_⟩) ?_ ?_
           rotate_left; ·intro w'; go_simp; with_reducible rfl
           rotate_left; ·simp only [Act.put, sA_, sZ_, sS_, i64_w, i32_w]; rfl
           refine pure_ (i := 13) (N := some 36) (v := ?_) (a' := ?_) #[true, true, true, true, true, true, true, true, true, true, true, true, true, true, false, false, false, false, false, false, false, false, false, false, false, false, false, false, false, false, false, false, false, false, false] rfl rfl (any_of HT_.out (by kernel_rfl)) (fun _ _ _ h => h) (Or.inl ⟨by rfl, ?_⟩) ?_ ?_
           rotate_left; ·intro w'; go_simp; with_reducible rfl
           rotate_left; ·simp only [Act.put, sA_, sZ_, sS_, i64_w, i32_w]; rfl
           refine pure_ (i := 14) (N := some 37) (v := undef) (a' := ?_) #[true, true, true, true, true, true, true, true, true, true, true, true, true, true, true, false, false, false, false, false, false, false, false, false, false, false, false, false, false, false, false, false, false, false, false] rfl rfl (any_of HT_.out (by kernel_rfl)) (fun _ _ _ h => h) (Or.inr ⟨by rfl, rfl⟩) ?_ ?_
           rotate_left; ·simp only [Act.put, sA_, sZ_, sS_, i64_w, i32_w]; rfl
           refine pure_ (i := 15) (N := some 38) (v := undef) (a' := ?_) #[true, true, true, true, true, true, true, true, true, true, true, true, true, true, true, true, false, false, false, false, false, false, false, false, false, false, false, false, false, false, false, false, false, false, false] rfl rfl (any_of HT_.out (by kernel_rfl)) (fun _ _ _ h => h) (Or.inr ⟨by rfl, rfl⟩) ?_ ?_
           rotate_left; ·simp only [Act.put, sA_, sZ_, sS_, i64_w, i32_w]; rfl
           refine pure_ (i := 16) (N := some 39) (v := undef) (a' := ?_) #[true, true, true, true, true, true, true, true, true, true, true, true, true, true, true, true, true, false, false, false, false, false, false, false, false, false, false, false, false, false, false, false, false, false, false] rfl rfl (any_of HT_.out (by kernel_rfl)) (fun _ _ _ h => h) (Or.inr ⟨by rfl, rfl⟩) ?_ ?_
           rotate_left; ·simp only [Act.put, sA_, sZ_, sS_, i64_w, i32_w]; rfl
           refine pure_ (i := 17) (N := some 40) (v := undef) (a' := ?_) #[true, true, true, true, true, true, true, true, true, true, true, true, true, true, true, true, true, true, false, false, false, false, false, false, false, false, false, false, false, false, false, false, false, false, false] rfl rfl (any_of HT_.out (by kernel_rfl)) (fun _ _ _ h => h) (Or.inr ⟨by rfl, rfl⟩) ?_ ?_
           rotate_left; ·simp only [Act.put, sA_, sZ_, sS_, i64_w, i32_w]; rfl
           refine pure_ (i := 18) (N := some 41) (v := undef) (a' := ?_) #[true, true, true, true, true, true, true, true, true, true, true, true, true, true, true, true, true, true, true, false, false, false, false, false, false, false, false, false, false, false, false, false, false, false, false] rfl rfl (any_of HT_.out (by kernel_rfl)) (fun _ _ _ h => h) (Or.inr ⟨by rfl, rfl⟩) ?_ ?_
           rotate_left; ·simp only [Act.put, sA_, sZ_, sS_, i64_w, i32_w]; rfl
           refine pure_ (i := 19) (N := some 42) (v := undef) (a' := ?_) #[true, true, true, true, true, true, true, true, true, true, true, true, true, true, true, true, true, true, true, true, false, false, false, false, false, false, false, false, false, false, false, false, false, false, false] rfl rfl (any_of HT_.out (by kernel_rfl)) (fun _ _ _ h => h) (Or.inr ⟨by rfl, rfl⟩) ?_ ?_
           rotate_left; ·simp only [Act.put, sA_, sZ_, sS_, i64_w, i32_w]; rfl
           refine pure_ (i := 20) (N := some 43) (v := undef) (a' := ?_) #[true, true, true, true, true, true, true, true, true, true, true, true, true, true, true, true, true, true, true, true, true, false, false, false, false, false, false, false, false, false, false, false, false, false, false] rfl rfl (any_of HT_.out (by kernel_rfl)) (fun _ _ _ h => h) (Or.inr ⟨by rfl, rfl⟩) ?_ ?_
           rotate_left; ·simp only [Act.put, sA_, sZ_, sS_, i64_w, i32_w]; rfl
           refine pure_ (i := 21) (N := some 44) (v := undef) (a' := ?_) #[true, true, true, true, true, true, true, true, true, true, true, true, true, true, true, true, true, true, true, true, true, true, false, false, false, false, false, false, false, false, false, false, false, false, false] rfl rfl (any_of HT_.out (by kernel_rfl)) (fun _ _ _ h => h) (Or.inr ⟨by rfl, rfl⟩) ?_ ?_
           rotate_left; ·simp only [Act.put, sA_, sZ_, sS_, i64_w, i32_w]; rfl
           refine pure_ (i := 22) (N := some 45) (v := ?_) (a' := ?_) #[true, true, true, true, true, true, true, true, true, true, true, true, true, true, true, true, true, true, true, true, true, true, true, false, false, false, false, false, false, false, false, false, false, false, false] rfl rfl (any_of HT_.out (by kernel_rfl)) (fun _ _ _ h => h) (Or.inl ⟨by rfl, ?_⟩) ?_ ?_
           rotate_left; ·intro w'; go_simp; with_reducible rfl
           rotate_left; ·simp only [Act.put, sA_, sZ_, sS_, i64_w, i32_w]; rfl
           refine pure_ (i := 23) (N := some 46) (v := ?_) (a' := ?_) #[true, true, true, true, true, true, true, true, true, true, true, true, true, true, true, true, true, true, true, true, true, true, true, true, false, false, false, false, false, false, false, false, false, false, false] rfl rfl (any_of HT_.out (by kernel_rfl)) (fun _ _ _ h => h) (Or.inl ⟨by rfl, ?_⟩) ?_ ?_
           rotate_left; ·intro w'; go_simp; with_reducible rfl
           rotate_left; ·simp only [Act.put, sA_, sZ_, sS_, i64_w, i32_w]; rfl
           refine pure_ (i := 24) (N := some 47) (v := undef) (a' := ?_) #[true, true, true, true, true, true, true, true, true, true, true, true, true, true, true, true, true, true, true, true, true, true, true, true, true, false, false, false, false, false, false, false, false, false, false] rfl rfl (any_of HT_.out (by kernel_rfl)) (fun _ _ _ h => h) (Or.inr ⟨by rfl, rfl⟩) ?_ ?_
           rotate_left; ·simp only [Act.put, sA_, sZ_, sS_, i64_w, i32_w]; rfl
           refine pure_ (i := 25) (N := some 48) (v := undef) (a' := ?_) #[true, true, true, true, true, true, true, true, true, true, true, true, true, true, true, true, true, true, true, true, true, true, true, true, true, true, false, false, false, false, false, false, false, false, false] rfl rfl (any_of HT_.out (by kernel_rfl)) (fun _ _ _ h => h) (Or.inr ⟨by rfl, rfl⟩) ?_ ?_
           rotate_left; ·simp only [Act.put, sA_, sZ_, sS_, i64_w, i32_w]; rfl
           refine pure_ (i := 26) (N := some 49) (v := undef) (a' := ?_) #[true, true, true, true, true, true, true, true, true, true, true, true, true, true, true, true, true, true, true, true, true, true, true, true, true, true, true, false, false, false, false, false, false, false, false] rfl rfl (any_of HT_.out (by kernel_rfl)) (fun _ _ _ h => h) (Or.inr ⟨by rfl, rfl⟩) ?_ ?_
           rotate_left; ·simp only [Act.put, sA_, sZ_, sS_, i64_w, i32_w]; rfl
           refine pure_ (i := 27) (N := some 50) (v := undef) (a' := ?_) #[true, true, true, true, true, true, true, true, true, true, true, true, true, true, true, true, true, true, true, true, true, true, true, true, true, true, true, true, false, false, false, false, false, false, false] rfl rfl (any_of HT_.out (by kernel_rfl)) (fun _ _ _ h => h) (Or.inr ⟨by rfl, rfl⟩) ?_ ?_
           rotate_left; ·simp only [Act.put, sA_, sZ_, sS_, i64_w, i32_w]; rfl
           refine pure_ (i := 28) (N := some 51) (v := undef) (a' := ?_) #[true, true, true, true, true, true, true, true, true, true, true, true, true, true, true, true, true, true, true, true, true, true, true, true, true, true, true, true, true, false, false, false, false, false, false] rfl rfl (any_of HT_.out (by kernel_rfl)) (fun _ _ _ h => h) (Or.inr ⟨by rfl, rfl⟩) ?_ ?_
           rotate_left; ·simp only [Act.put, sA_, sZ_, sS_, i64_w, i32_w]; rfl
           refine pure_ (i := 29) (N := some 52) (v := undef) (a' := ?_) #[true, true, true, true, true, true, true, true, true, true, true, true, true, true, true, true, true, true, true, true, true, true, true, true, true, true, true, true, true, true, false, false, false, false, false] rfl rfl (any_of HT_.out (by kernel_rfl)) (fun _ _ _ h => h) (Or.inr ⟨by rfl, rfl⟩) ?_ ?_
           rotate_left; ·simp only [Act.put, sA_, sZ_, sS_, i64_w, i32_w]; rfl
           refine pure_ (i := 30) (N := some 53) (v := undef) (a' := ?_) #[true, true, true, true, true, true, true, true, true, true, true, true, true, true, true, true, true, true, true, true, true, true, true, true, true, true, true, true, true, true, true, false, false, false, false] rfl rfl (any_of HT_.out (by kernel_rfl)) (fun _ _ _ h => h) (Or.inr ⟨by rfl, rfl⟩) ?_ ?_
           rotate_left; ·simp only [Act.put, sA_, sZ_, sS_, i64_w, i32_w]; rfl
           refine pure_ (i := 31) (N := some 54) (v := undef) (a' := ?_) #[true, true, true, true, true, true, true, true, true, true, true, true, true, true, true, true, true, true, true, true, true, true, true, true, true, true, true, true, true, true, true, true, false, false, false] rfl rfl (any_of HT_.out (by kernel_rfl)) (fun _ _ _ h => h) (Or.inr ⟨by rfl, rfl⟩) ?_ ?_
           rotate_left; ·simp only [Act.put, sA_, sZ_, sS_, i64_w, i32_w]; rfl
           refine pure_ (i := 32) (N := some 55) (v := undef) (a' := ?_) #[true, true, true, true, true, true, true, true, true, true, true, true, true, true, true, true, true, true, true, true, true, true, true, true, true, true, true, true, true, true, true, true, true, false, false] rfl rfl (any_of HT_.out (by kernel_rfl)) (fun _ _ _ h => h) (Or.inr ⟨by rfl, rfl⟩) ?_ ?_
           rotate_left; ·simp only [Act.put, sA_, sZ_, sS_, i64_w, i32_w]; rfl
           refine pure_ (i := 33) (N := some 56) (v := undef) (a' := ?_) #[true, true, true, true, true, true, true, true, true, true, true, true, true, true, true, true, true, true, true, true, true, true, true, true, true, true, true, true, true, true, true, true, true, true, false] rfl rfl (any_of HT_.out (by kernel_rfl)) (fun _ _ _ h => h) (Or.inr ⟨by rfl, rfl⟩) ?_ ?_
           rotate_left; ·simp only [Act.put, sA_, sZ_, sS_, i64_w, i32_w]; rfl
           refine pure_ (i := 34) (N := some 57) (v := ?_) (a' := ?_) #[true, true, true, true, true, true, true, true, true, true, true, true, true, true, true, true, true, true, true, true, true, true, true, true, true, true, true, true, true, true, true, true, true, true, true] rfl rfl (any_of HT_.out (by kernel_rfl)) (fun _ _ _ h => h) (Or.inl ⟨by rfl, ?_⟩) ?_ ?_
           rotate_left; ·intro w'; go_simp; with_reducible rfl
           rotate_left; ·simp only [Act.put, sA_, sZ_, sS_, i64_w, i32_w]; rfl
           refine done_ (done_of HT_.out (by kernel_rfl)) ?_
           try go_wp2
           go_ret
           exact ⟨by first | rfl | (simp [errW_none, errW_some] <;> rfl) | (simp [*, errW_none, errW_some] <;> rfl), by repeat (first | (with_reducible first | exact HB.out | apply bA_ | apply bN_ | apply bD_) | exact HB.out)⟩
          ·rw [if_neg c13] at H
           have c13b0 : decide (a0 ≤ (rd l2 x7_2)) = false := decide_eq_false c13
           clear c13
           have c15b0 := eq_true (of_decide_eq_true (by first | (with_reducible assumption) | assumption) : 0 ≤ x7_2)
           by_cases c16 : x7_2 ≤ (l2.length : Int)
           ·rw [if_pos c16] at H
            have c16b0 := eq_true c16
            have c16b1 : decide (x7_2 ≤ (l2.length : Int)) = true := decide_eq_true c16
            clear c16; replace H := oB_ H
            obtain ⟨t247, A170, H⟩ := H
            replace H : (if t247 = true then (some false) else ((swarfref29_ready.f k2 l1 (l2.take (x7_2 : Int).toNat) (rd l2 x7_2)).bind fun t250 => (if t250 = true then (swarfref29_Linear.l0 k2 a0 l1 l2 (wrap64 (x7_2 + 1))) else (some false)))) = some r := H
            have A17 := aK A170; clear A170
            by_cases c18 : t247 = true
            ·subst c18
             have H1 : (some false) = some r := by rw [if_pos rfl] at H; exact H
             clear H; have H := H1; clear H1; obtain rfl := Option.some.inj H
             try go_wp2
             have n0_ := aK (bD_ HB.out)
             clear HB; have HB := n0_; clear n0_
             have p243 : 0 ≤ (x7_2 : Int) := of_decide_eq_true (by first | (with_reducible assumption) | assumption)
             have q243 : x7_2 < (l2.length : Int) := of_decide_eq_true (by first | (with_reducible assumption) | assumption)
             obtain ⟨ad243, e243, hx243_0⟩ := Kd.at_int HR2.out x7_2 p243 q243
             have hw243_0 := hx243_0; cases e243
             replace hx243_0 := (HB.out.cell (World.block_lt_of_cell? w _ hx243_0)).trans hx243_0
             replace p243 := eq_true p243; replace q243 := eq_true q243
             have p244 : 0 ≤ (x7_2 : Int) := of_decide_eq_true (by first | (with_reducible assumption) | assumption)
             have q244 : x7_2 < (l2.length : Int) := of_decide_eq_true (by first | (with_reducible assumption) | assumption)
             obtain ⟨ad244, e244, hx244_0⟩ := Kd.at_int HR2.out x7_2 p244 q244
             have hw244_0 := hx244_0
             obtain rfl : ad243 = ad244 := (by injection e244)
             replace hx244_0 := (HB.out.cell (World.block_lt_of_cell? w _ hx244_0)).trans hx244_0
             replace p244 := eq_true p244; replace q244 := eq_true q244
             obtain ⟨i020, hi020, _, hsz20, _⟩ := info_parts info3
             obtain ⟨hcut20, hA20, hC20⟩ := print_take_of (P := Try.prog) (Value.int .i64) 0 31 3 .i64 Try.underlying31 hi020 hsz20 (some ad243) c2 l2 x7_2 (of_decide_eq_true (by first | (with_reducible assumption) | assumption)) (of_decide_eq_true (by first | (with_reducible assumption) | assumption)) HC2.out
             have HR245 := aK (Kd.C_of_reads (h1 := fun _ => rfl) (hA20 _ (Kd.reads_of_C HR2.out)))
             have HC245 := aK hC20; clear hA20 hC20 hi020 hsz20
             have p246 : 0 ≤ (x7_2 : Int) := of_decide_eq_true (by first | (with_reducible assumption) | assumption)
             have q246 : x7_2 < (l2.length : Int) := of_decide_eq_true (by first | (with_reducible assumption) | assumption)
             obtain ⟨ad246, e246, hx246_0⟩ := Kd.at_int HR2.out x7_2 p246 q246
             have hw246_0 := hx246_0
             obtain rfl : ad243 = ad246 := (by injection e246)
             replace hx246_0 := (HB.out.cell (World.block_lt_of_cell? w _ hx246_0)).trans hx246_0
             replace p246 := eq_true p246; replace q246 := eq_true q246
             refine start_ (n := 35) (S := fun w' => w'.cell? (ad243.add (x7_2).toNat) = some (.int .i64 (rd l2 x7_2)) ∧ w'.cell? (ad243.add (x7_2).toNat) = some (.int .i64 (rd l2 x7_2)) ∧ w'.cell? (ad243.add (x7_2).toNat) = some (.int .i64 (rd l2 x7_2))) (ds := []) #[false, false, false, false, false, false, false, false, false, false, false, false, false, false, false, false, false, false, false, false, false, false, false, false, false, false, false, false, false, false, false, false, false, false, false] (by kernel_rfl) rfl rfl ⟨((HB.out.cell (World.block_lt_of_cell? w _ hw243_0)).trans hw243_0), ((HB.out.cell (World.block_lt_of_cell? w _ hw244_0)).trans hw244_0), ((HB.out.cell (World.block_lt_of_cell? w _ hw246_0)).trans hw246_0)⟩ (fun hHeld => ?_); refine with_tabW swarfref29_Linear.tab6 swarfref29_Linear.bits6 (fun HT_ HW_ => ?_)
             generalize wr.drew = w19 at HB HR245 hx243_0 hx244_0 hx246_0 hHeld ⊢
             refine pure_ (i := 0) (N := some 23) (v := ?_) (a' := ?_) #[true, false, false, false, false, false, false, false, false, false, false, false, false, false, false, false, false, false, false, false, false, false, false, false, false, false, false, false, false, false, false, false, false, false, false] rfl rfl (any_of HT_.out (by kernel_rfl)) (fun _ _ _ h => h) (Or.inl ⟨by rfl, ?_⟩) ?_ ?_
             rotate_left; ·intro w'; go_simp; with_reducible rfl
             rotate_left; ·simp only [Act.put, sA_, sZ_, sS_, i64_w, i32_w]; rfl
             refine pure_ (i := 1) (N := some 24) (v := ?_) (a' := ?_) #[true, true, false, false, false, false, false, false, false, false, false, false, false, false, false, false, false, false, false, false, false, false, false, false, false, false, false, false, false, false, false, false, false, false, false] rfl rfl (any_of HT_.out (by kernel_rfl)) (fun _ _ _ h => h) (Or.inl ⟨by rfl, ?_⟩) ?_ ?_
             rotate_left; ·intro w'; go_simp; with_reducible rfl
             rotate_left; ·simp only [Act.put, sA_, sZ_, sS_, i64_w, i32_w]; rfl
             refine pure_ (i := 2) (N := some 25) (v := ?_) (a' := ?_) #[true, true, true, false, false, false, false, false, false, false, false, false, false, false, false, false, false, false, false, false, false, false, false, false, false, false, false, false, false, false, false, false, false, false, false] rfl rfl (any_of HT_.out (by kernel_rfl)) (fun _ _ _ h => h) (Or.inl ⟨by rfl, ?_⟩) ?_ ?_
             rotate_left; ·intro w'; go_simp; with_reducible rfl
             rotate_left; ·simp only [Act.put, sA_, sZ_, sS_, i64_w, i32_w]; rfl
             refine take_ (i := 3) (N := some 26) (v := ?_) (a' := ?_) #[true, true, true, true, false, false, false, false, false, false, false, false, false, false, false, false, false, false, false, false, false, false, false, false, false, false, false, false, false, false, false, false, false, false, false] rfl rfl (take_ofW HT_.out HW_.out (by kernel_rfl)) (fun _ _ _ h => h) (Or.inl ⟨by rfl, ?_⟩) hHeld ?_ ?_
             rotate_left
             ·rintro w' ⟨s0, s1, s2⟩; go_simp; with_reducible rfl
             rotate_left; ·simp only [Act.put, sA_, sZ_, sS_, i64_w, i32_w]; rfl
             refine pure_ (i := 4) (N := some 27) (v := ?_) (a' := ?_) #[true, true, true, true, true, false, false, false, false, false, false, false, false, false, false, false, false, false, false, false, false, false, false, false, false, false, false, false, false, false, false, false, false, false, false] rfl rfl (any_of HT_.out (by kernel_rfl)) (fun _ _ _ h => h) (Or.inl ⟨by rfl, ?_⟩) ?_ ?_
             rotate_left; ·intro w'; go_simp; with_reducible rfl
             rotate_left; ·simp only [Act.put, sA_, sZ_, sS_, i64_w, i32_w]; rfl
             refine pure_ (i := 5) (N := some 28) (v := ?_) (a' := ?_) #[true, true, true, true, true, true, false, false, false, false, false, false, false, false, false, false, false, false, false, false, false, false, false, false, false, false, false, false, false, false, false, false, false, false, false] rfl rfl (any_of HT_.out (by kernel_rfl)) (fun _ _ _ h => h) (Or.inl ⟨by rfl, ?_⟩) ?_ ?_
             rotate_left; ·intro w'; go_simp; with_reducible rfl
             rotate_left; ·simp only [Act.put, sA_, sZ_, sS_, i64_w, i32_w]; rfl
             refine pure_ (i := 6) (N := some 29) (v := ?_) (a' := ?_) #[true, true, true, true, true, true, true, false, false, false, false, false, false, false, false, false, false, false, false, false, false, false, false, false, false, false, false, false, false, false, false, false, false, false, false] rfl rfl (any_of HT_.out (by kernel_rfl)) (fun _ _ _ h => h) (Or.inl ⟨by rfl, ?_⟩) ?_ ?_
             rotate_left; ·intro w'; go_simp; with_reducible rfl
             rotate_left; ·simp only [Act.put, sA_, sZ_, sS_, i64_w, i32_w]; rfl
             refine pure_ (i := 7) (N := some 30) (v := ?_) (a' := ?_) #[true, true, true, true, true, true, true, true, false, false, false, false, false, false, false, false, false, false, false, false, false, false, false, false, false, false, false, false, false, false, false, false, false, false, false] rfl rfl (any_of HT_.out (by kernel_rfl)) (fun _ _ _ h => h) (Or.inl ⟨by rfl, ?_⟩) ?_ ?_
             rotate_left; ·intro w'; go_simp; with_reducible rfl
             rotate_left; ·simp only [Act.put, sA_, sZ_, sS_, i64_w, i32_w]; rfl
             refine pure_ (i := 8) (N := some 31) (v := ?_) (a' := ?_) #[true, true, true, true, true, true, true, true, true, false, false, false, false, false, false, false, false, false, false, false, false, false, false, false, false, false, false, false, false, false, false, false, false, false, false] rfl rfl (any_of HT_.out (by kernel_rfl)) (fun _ _ _ h => h) (Or.inl ⟨by rfl, ?_⟩) ?_ ?_
             rotate_left; ·intro w'; go_simp; with_reducible rfl
             rotate_left; ·simp only [Act.put, sA_, sZ_, sS_, i64_w, i32_w]; rfl
             refine pure_ (i := 10) (N := some 33) (v := ?_) (a' := ?_) #[true, true, true, true, true, true, true, true, true, false, true, false, false, false, false, false, false, false, false, false, false, false, false, false, false, false, false, false, false, false, false, false, false, false, false] rfl rfl (any_of HT_.out (by kernel_rfl)) (fun _ _ _ h => h) (Or.inl ⟨by rfl, ?_⟩) ?_ ?_
             rotate_left; ·intro w'; go_simp; with_reducible rfl
             rotate_left; ·simp only [Act.put, sA_, sZ_, sS_, i64_w, i32_w]; rfl
             refine take_ (i := 9) (N := some 32) (v := ?_) (a' := ?_) #[true, true, true, true, true, true, true, true, true, true, true, false, false, false, false, false, false, false, false, false, false, false, false, false, false, false, false, false, false, false, false, false, false, false, false] rfl rfl (take_ofW HT_.out HW_.out (by kernel_rfl)) (fun _ _ _ h => h) (Or.inl ⟨by rfl, ?_⟩) hHeld ?_ ?_
             rotate_left
             ·rintro w' ⟨s0, s1, s2⟩; go_simp; with_reducible rfl
             rotate_left; ·simp only [Act.put, sA_, sZ_, sS_, i64_w, i32_w]; rfl
             refine pure_ (i := 11) (N := some 34) (v := ?_) (a' := ?_) #[true, true, true, true, true, true, true, true, true, true, true, true, false, false, false, false, false, false, false, false, false, false, false, false, false, false, false, false, false, false, false, false, false, false, false] rfl rfl (any_of HT_.out (by kernel_rfl)) (fun _ _ _ h => h) (Or.inl ⟨by rfl, ?_⟩) ?_ ?_
             rotate_left; ·intro w'; go_simp; with_reducible rfl
             rotate_left; ·simp only [Act.put, sA_, sZ_, sS_, i64_w, i32_w]; rfl
             refine pure_ (i := 12) (N := some 35) (v := ?_) (a' := ?_) #[true, true, true, true, true, true, true, true, true, true, true, true, true, false, false, false, false, false, false, false, false, false, false, false, false, false, false, false, false, false, false, false, false, false, false] rfl rfl (any_of HT_.out (by kernel_rfl)) (fun _ _ _ h => h) (Or.inl ⟨by rfl, ?_⟩) ?_ ?_
             rotate_left; ·intro w'; go_simp; with_reducible rfl
             rotate_left; ·simp only [Act.put, sA_, sZ_, sS_, i64_w, i32_w]; rfl
             refine pure_ (i := 13) (N := some 36) (v := ?_) (a' := ?_) #[true, true, true, true, true, true, true, true, true, true, true, true, true, true, false, false, false, false, false, false, false, false, false, false, false, false, false, false, false, false, false, false, false, false, false] rfl rfl (any_of HT_.out (by kernel_rfl)) (fun _ _ _ h => h) (Or.inl ⟨by rfl, ?_⟩) ?_ ?_
             rotate_left; ·intro w'; go_simp; with_reducible rfl
             rotate_left; ·simp only [Act.put, sA_, sZ_, sS_, i64_w, i32_w]; rfl
             refine pure_ (i := 14) (N := some 37) (v := ?_) (a' := ?_) #[true, true, true, true, true, true, true, true, true, true, true, true, true, true, true, false, false, false, false, false, false, false, false, false, false, false, false, false, false, false, false, false, false, false, false] rfl rfl (any_of HT_.out (by kernel_rfl)) (fun _ _ _ h => h) (Or.inl ⟨by rfl, ?_⟩) ?_ ?_
             rotate_left; ·intro w'; go_simp; with_reducible rfl
             rotate_left; ·simp only [Act.put, sA_, sZ_, sS_, i64_w, i32_w]; rfl
             refine pure_ (i := 15) (N := some 38) (v := ?_) (a' := ?_) #[true, true, true, true, true, true, true, true, true, true, true, true, true, true, true, true, false, false, false, false, false, false, false, false, false, false, false, false, false, false, false, false, false, false, false] rfl rfl (any_of HT_.out (by kernel_rfl)) (fun _ _ _ h => h) (Or.inl ⟨by rfl, ?_⟩) ?_ ?_
             rotate_left; ·intro w'; go_simp; with_reducible rfl
             rotate_left; ·simp only [Act.put, sA_, sZ_, sS_, i64_w, i32_w]; rfl
             refine pure_ (i := 16) (N := some 39) (v := ?_) (a' := ?_) #[true, true, true, true, true, true, true, true, true, true, true, true, true, true, true, true, true, false, false, false, false, false, false, false, false, false, false, false, false, false, false, false, false, false, false] rfl rfl (any_of HT_.out (by kernel_rfl)) (fun _ _ _ h => h) (Or.inl ⟨by rfl, ?_⟩) ?_ ?_
             rotate_left; ·intro w'; go_simp; with_reducible rfl
             rotate_left; ·simp only [Act.put, sA_, sZ_, sS_, i64_w, i32_w]; rfl
             refine pure_ (i := 17) (N := some 40) (v := ?_) (a' := ?_) #[true, true, true, true, true, true, true, true, true, true, true, true, true, true, true, true, true, true, false, false, false, false, false, false, false, false, false, false, false, false, false, false, false, false, false] rfl rfl (any_of HT_.out (by kernel_rfl)) (fun _ _ _ h => h) (Or.inl ⟨by rfl, ?_⟩) ?_ ?_
             rotate_left; ·intro w'; go_simp; with_reducible rfl
             rotate_left; ·simp only [Act.put, sA_, sZ_, sS_, i64_w, i32_w]; rfl
             refine pure_ (i := 18) (N := some 41) (v := ?_) (a' := ?_) #[true, true, true, true, true, true, true, true, true, true, true, true, true, true, true, true, true, true, true, false, false, false, false, false, false, false, false, false, false, false, false, false, false, false, false] rfl rfl (any_of HT_.out (by kernel_rfl)) (fun _ _ _ h => h) (Or.inl ⟨by rfl, ?_⟩) ?_ ?_
             rotate_left; ·intro w'; go_simp; with_reducible rfl
             rotate_left; ·simp only [Act.put, sA_, sZ_, sS_, i64_w, i32_w]; rfl
             refine pure_ (i := 19) (N := some 42) (v := ?_) (a' := ?_) #[true, true, true, true, true, true, true, true, true, true, true, true, true, true, true, true, true, true, true, true, false, false, false, false, false, false, false, false, false, false, false, false, false, false, false] rfl rfl (any_of HT_.out (by kernel_rfl)) (fun _ _ _ h => h) (Or.inl ⟨by rfl, ?_⟩) ?_ ?_
             rotate_left; ·intro w'; go_simp; with_reducible rfl
             rotate_left; ·simp only [Act.put, sA_, sZ_, sS_, i64_w, i32_w]; rfl
             refine take_ (i := 20) (N := some 43) (v := ?_) (a' := ?_) #[true, true, true, true, true, true, true, true, true, true, true, true, true, true, true, true, true, true, true, true, true, false, false, false, false, false, false, false, false, false, false, false, false, false, false] rfl rfl (take_ofW HT_.out HW_.out (by kernel_rfl)) (fun _ _ _ h => h) (Or.inl ⟨by rfl, ?_⟩) hHeld ?_ ?_
             rotate_left
             ·rintro w' ⟨s0, s1, s2⟩; go_simp; with_reducible rfl
             rotate_left; ·simp only [Act.put, sA_, sZ_, sS_, i64_w, i32_w]; rfl
             refine one_ (i := 21) (N := some 44) #[true, true, true, true, true, true, true, true, true, true, true, true, true, true, true, true, true, true, true, true, true, true, false, false, false, false, false, false, false, false, false, false, false, false, false] rfl rfl (one_of HT_.out (by kernel_rfl)) (by decide) (fun K hK => ?_)
             refine goes_ Try.func40 (by kernel_rfl) rfl #[.slice (some ad243) (l2.take (x7_2 : Int).toNat).length c2, .int .i64 (rd l2 x7_2)] (by rfl) rfl rfl (by (try simp only [List.map_toArray, List.map_cons, List.map_nil]); first | done | (rw [show (l2.take (x7_2 : Int).toNat).length = x7_2.toNat from (by rw [List.length_take]; have h_ : (x7_2 : Int) ≤ (l2.length : Int) := of_decide_eq_true (by first | (with_reducible assumption) | assumption); omega)] <;> rfl) | rfl | (simp only [List.length_drop, List.length_take]; rfl)) ?_
             with_reducible refine (swarfref29_in.calls k2 _ _ (l2.take (x7_2 : Int).toNat) (rd l2 x7_2) true _ ?side1 ?side2 A17.out).mono ?_
             (case side1 => repeat (first | exact (Kd.C_below HR245.out HB.out) | (with_reducible refine Kd.C_alloc ?_ _) | (with_reducible refine Kd.C_drewN ?_ _) | (with_reducible refine Kd.C_drew ?_)))
             (case side2 => exact HC245.out)
             rintro e w' ⟨rfl, ⟨nd, rfl⟩⟩
             refine ⟨_, rfl, ?_⟩
             refine hK.out _ _ ⟨((HB.out.cell (World.block_lt_of_cell? w _ hw243_0)).trans hw243_0), ((HB.out.cell (World.block_lt_of_cell? w _ hw244_0)).trans hw244_0), ((HB.out.cell (World.block_lt_of_cell? w _ hw246_0)).trans hw246_0)⟩ (fun hHeld => ?_)
             clear hK K
             refine norm_ (a' := ?_) ?_ ?_
             rotate_left
             ·show Act.put _ (some 44) _ = _
              simp only [Act.put, sA_, sZ_, sS_, i64_w, i32_w]; rfl
             refine pure_ (i := 22) (N := some 45) (v := ?_) (a' := ?_) #[true, true, true, true, true, true, true, true, true, true, true, true, true, true, true, true, true, true, true, true, true, true, true, false, false, false, false, false, false, false, false, false, false, false, false] rfl rfl (any_of HT_.out (by kernel_rfl)) (fun _ _ _ h => h) (Or.inl ⟨by rfl, ?_⟩) ?_ ?_
             rotate_left; ·intro w'; go_simp; with_reducible rfl
             rotate_left; ·simp only [Act.put, sA_, sZ_, sS_, i64_w, i32_w]; rfl
             refine pure_ (i := 23) (N := some 46) (v := ?_) (a' := ?_) #[true, true, true, true, true, true, true, true, true, true, true, true, true, true, true, true, true, true, true, true, true, true, true, true, false, false, false, false, false, false, false, false, false, false, false] rfl rfl (any_of HT_.out (by kernel_rfl)) (fun _ _ _ h => h) (Or.inl ⟨by rfl, ?_⟩) ?_ ?_
             rotate_left; ·intro w'; go_simp; with_reducible rfl
             rotate_left; ·simp only [Act.put, sA_, sZ_, sS_, i64_w, i32_w]; rfl
             refine pure_ (i := 24) (N := some 47) (v := undef) (a' := ?_) #[true, true, true, true, true, true, true, true, true, true, true, true, true, true, true, true, true, true, true, true, true, true, true, true, true, false, false, false, false, false, false, false, false, false, false] rfl rfl (any_of HT_.out (by kernel_rfl)) (fun _ _ _ h => h) (Or.inr ⟨by rfl, rfl⟩) ?_ ?_
             rotate_left; ·simp only [Act.put, sA_, sZ_, sS_, i64_w, i32_w]; rfl
             refine pure_ (i := 25) (N := some 48) (v := undef) (a' := ?_) #[true, true, true, true, true, true, true, true, true, true, true, true, true, true, true, true, true, true, true, true, true, true, true, true, true, true, false, false, false, false, false, false, false, false, false] rfl rfl (any_of HT_.out (by kernel_rfl)) (fun _ _ _ h => h) (Or.inr ⟨by rfl, rfl⟩) ?_ ?_
             rotate_left; ·simp only [Act.put, sA_, sZ_, sS_, i64_w, i32_w]; rfl
             refine pure_ (i := 26) (N := some 49) (v := undef) (a' := ?_) #[true, true, true, true, true, true, true, true, true, true, true, true, true, true, true, true, true, true, true, true, true, true, true, true, true, true, true, false, false, false, false, false, false, false, false] rfl rfl (any_of HT_.out (by kernel_rfl)) (fun _ _ _ h => h) (Or.inr ⟨by rfl, rfl⟩) ?_ ?_
             rotate_left; ·simp only [Act.put, sA_, sZ_, sS_, i64_w, i32_w]; rfl
             refine pure_ (i := 27) (N := some 50) (v := undef) (a' := ?_) #[true, true, true, true, true, true, true, true, true, true, true, true, true, true, true, true, true, true, true, true, true, true, true, true, true, true, true, true, false, false, false, false, false, false, false] rfl rfl (any_of HT_.out (by kernel_rfl)) (fun _ _ _ h => h) (Or.inr ⟨by rfl, rfl⟩) ?_ ?_
             rotate_left; ·simp only [Act.put, sA_, sZ_, sS_, i64_w, i32_w]; rfl
             refine pure_ (i := 28) (N := some 51) (v := undef) (a' := ?_) #[true, true, true, true, true, true, true, true, true, true, true, true, true, true, true, true, true, true, true, true, true, true, true, true, true, true, true, true, true, false, false, false, false, false, false] rfl rfl (any_of HT_.out (by kernel_rfl)) (fun _ _ _ h => h) (Or.inr ⟨by rfl, rfl⟩) ?_ ?_
             rotate_left; ·simp only [Act.put, sA_, sZ_, sS_, i64_w, i32_w]; rfl
             refine pure_ (i := 29) (N := some 52) (v := undef) (a' := ?_) #[true, true, true, true, true, true, true, true, true, true, true, true, true, true, true, true, true, true, true, true, true, true, true, true, true, true, true, true, true, true, false, false, false, false, false] rfl rfl (any_of HT_.out (by kernel_rfl)) (fun _ _ _ h => h) (Or.inr ⟨by rfl, rfl⟩) ?_ ?_
             rotate_left; ·simp only [Act.put, sA_, sZ_, sS_, i64_w, i32_w]; rfl
             refine pure_ (i := 30) (N := some 53) (v := undef) (a' := ?_) #[true, true, true, true, true, true, true, true, true, true, true, true, true, true, true, true, true, true, true, true, true, true, true, true, true, true, true, true, true, true, true, false, false, false, false] rfl rfl (any_of HT_.out (by kernel_rfl)) (fun _ _ _ h => h) (Or.inr ⟨by rfl, rfl⟩) ?_ ?_
             rotate_left; ·simp only [Act.put, sA_, sZ_, sS_, i64_w, i32_w]; rfl
             refine pure_ (i := 31) (N := some 54) (v := undef) (a' := ?_) #[true, true, true, true, true, true, true, true, true, true, true, true, true, true, true, true, true, true, true, true, true, true, true, true, true, true, true, true, true, true, true, true, false, false, false] rfl rfl (any_of HT_.out (by kernel_rfl)) (fun _ _ _ h => h) (Or.inr ⟨by rfl, rfl⟩) ?_ ?_
             rotate_left; ·simp only [Act.put, sA_, sZ_, sS_, i64_w, i32_w]; rfl
             refine pure_ (i := 32) (N := some 55) (v := undef) (a' := ?_) #[true, true, true, true, true, true, true, true, true, true, true, true, true, true, true, true, true, true, true, true, true, true, true, true, true, true, true, true, true, true, true, true, true, false, false] rfl rfl (any_of HT_.out (by kernel_rfl)) (fun _ _ _ h => h) (Or.inr ⟨by rfl, rfl⟩) ?_ ?_
             rotate_left; ·simp only [Act.put, sA_, sZ_, sS_, i64_w, i32_w]; rfl
             refine pure_ (i := 33) (N := some 56) (v := undef) (a' := ?_) #[true, true, true, true, true, true, true, true, true, true, true, true, true, true, true, true, true, true, true, true, true, true, true, true, true, true, true, true, true, true, true, true, true, true, false] rfl rfl (any_of HT_.out (by kernel_rfl)) (fun _ _ _ h => h) (Or.inr ⟨by rfl, rfl⟩) ?_ ?_
             rotate_left; ·simp only [Act.put, sA_, sZ_, sS_, i64_w, i32_w]; rfl
             refine pure_ (i := 34) (N := some 57) (v := ?_) (a' := ?_) #[true, true, true, true, true, true, true, true, true, true, true, true, true, true, true, true, true, true, true, true, true, true, true, true, true, true, true, true, true, true, true, true, true, true, true] rfl rfl (any_of HT_.out (by kernel_rfl)) (fun _ _ _ h => h) (Or.inl ⟨by rfl, ?_⟩) ?_ ?_
             rotate_left; ·intro w'; go_simp; with_reducible rfl
             rotate_left; ·simp only [Act.put, sA_, sZ_, sS_, i64_w, i32_w]; rfl
             refine done_ (done_of HT_.out (by kernel_rfl)) ?_
             try go_wp2
             go_ret
             exact ⟨by first | rfl | (simp [errW_none, errW_some] <;> rfl) | (simp [*, errW_none, errW_some] <;> rfl), by repeat (first | (with_reducible first | exact HB.out | apply bA_ | apply bN_ | apply bD_) | exact HB.out)⟩
            ·replace c18 := Bool.eq_false_iff.mpr c18
             subst c18
             have H1 : ((swarfref29_ready.f k2 l1 (l2.take (x7_2 : Int).toNat) (rd l2 x7_2)).bind fun t250 => (if t250 = true then (swarfref29_Linear.l0 k2 a0 l1 l2 (wrap64 (x7_2 + 1))) else (some false))) = some r := by rw [if_neg (show ¬ (false = true) by decide)] at H; exact H
             clear H; have H := H1; clear H1
             have c21b0 := eq_true (of_decide_eq_true (by first | (with_reducible assumption) | assumption) : 0 ≤ x7_2)
             have c22b0 := eq_true (of_decide_eq_true (by first | (with_reducible assumption) | assumption) : x7_2 ≤ (l2.length : Int))
             replace H := oB_ H
             obtain ⟨t250, A230, H⟩ := H
             replace H : (if t250 = true then (swarfref29_Linear.l0 k2 a0 l1 l2 (wrap64 (x7_2 + 1))) else (some false)) = some r := H
             have A23 := aK A230; clear A230
             by_cases c24 : t250 = true
             ·subst c24
              have H1 : (swarfref29_Linear.l0 k2 a0 l1 l2 (wrap64 (x7_2 + 1))) = some r := by rw [if_pos rfl] at H; exact H
              clear H; have H := H1; clear H1; have H' := aK H; clear H
              try go_wp2
              have n0_ := aK (bD_ HB.out)
              clear HB; have HB := n0_; clear n0_
              have p243 : 0 ≤ (x7_2 : Int) := of_decide_eq_true (by first | (with_reducible assumption) | assumption)
              have q243 : x7_2 < (l2.length : Int) := of_decide_eq_true (by first | (with_reducible assumption) | assumption)
              obtain ⟨ad243, e243, hx243_0⟩ := Kd.at_int HR2.out x7_2 p243 q243
              have hw243_0 := hx243_0; cases e243
              replace hx243_0 := (HB.out.cell (World.block_lt_of_cell? w _ hx243_0)).trans hx243_0
              replace p243 := eq_true p243; replace q243 := eq_true q243
              have p244 : 0 ≤ (x7_2 : Int) := of_decide_eq_true (by first | (with_reducible assumption) | assumption)
              have q244 : x7_2 < (l2.length : Int) := of_decide_eq_true (by first | (with_reducible assumption) | assumption)
              obtain ⟨ad244, e244, hx244_0⟩ := Kd.at_int HR2.out x7_2 p244 q244
              have hw244_0 := hx244_0
              obtain rfl : ad243 = ad244 := (by injection e244)
              replace hx244_0 := (HB.out.cell (World.block_lt_of_cell? w _ hx244_0)).trans hx244_0
              replace p244 := eq_true p244; replace q244 := eq_true q244
              obtain ⟨i026, hi026, _, hsz26, _⟩ := info_parts info3
              obtain ⟨hcut26, hA26, hC26⟩ := print_take_of (P := Try.prog) (Value.int .i64) 0 31 3 .i64 Try.underlying31 hi026 hsz26 (some ad243) c2 l2 x7_2 (of_decide_eq_true (by first | (with_reducible assumption) | assumption)) (of_decide_eq_true (by first | (with_reducible assumption) | assumption)) HC2.out
              have HR245 := aK (Kd.C_of_reads (h1 := fun _ => rfl) (hA26 _ (Kd.reads_of_C HR2.out)))
              have HC245 := aK hC26; clear hA26 hC26 hi026 hsz26
              have p246 : 0 ≤ (x7_2 : Int) := of_decide_eq_true (by first | (with_reducible assumption) | assumption)
              have q246 : x7_2 < (l2.length : Int) := of_decide_eq_true (by first | (with_reducible assumption) | assumption)
              obtain ⟨ad246, e246, hx246_0⟩ := Kd.at_int HR2.out x7_2 p246 q246
              have hw246_0 := hx246_0
              obtain rfl : ad243 = ad246 := (by injection e246)
              replace hx246_0 := (HB.out.cell (World.block_lt_of_cell? w _ hx246_0)).trans hx246_0
              replace p246 := eq_true p246; replace q246 := eq_true q246
              have p249 : 0 ≤ (x7_2 : Int) := of_decide_eq_true (by first | (with_reducible assumption) | assumption)
              have q249 : x7_2 < (l2.length : Int) := of_decide_eq_true (by first | (with_reducible assumption) | assumption)
              obtain ⟨ad249, e249, hx249_0⟩ := Kd.at_int HR2.out x7_2 p249 q249
              have hw249_0 := hx249_0
              obtain rfl : ad243 = ad249 := (by injection e249)
              replace hx249_0 := (HB.out.cell (World.block_lt_of_cell? w _ hx249_0)).trans hx249_0
              replace p249 := eq_true p249; replace q249 := eq_true q249
              refine start_ (n := 35) (S := fun w' => w'.cell? (ad243.add (x7_2).toNat) = some (.int .i64 (rd l2 x7_2)) ∧ w'.cell? (ad243.add (x7_2).toNat) = some (.int .i64 (rd l2 x7_2)) ∧ w'.cell? (ad243.add (x7_2).toNat) = some (.int .i64 (rd l2 x7_2)) ∧ w'.cell? (ad243.add (x7_2).toNat) = some (.int .i64 (rd l2 x7_2))) (ds := []) #[false, false, false, false, false, false, false, false, false, false, false, false, false, false, false, false, false, false, false, false, false, false, false, false, false, false, false, false, false, false, false, false, false, false, false] (by kernel_rfl) rfl rfl ⟨((HB.out.cell (World.block_lt_of_cell? w _ hw243_0)).trans hw243_0), ((HB.out.cell (World.block_lt_of_cell? w _ hw244_0)).trans hw244_0), ((HB.out.cell (World.block_lt_of_cell? w _ hw246_0)).trans hw246_0), ((HB.out.cell (World.block_lt_of_cell? w _ hw249_0)).trans hw249_0)⟩ (fun hHeld => ?_); refine with_tabW swarfref29_Linear.tab6 swarfref29_Linear.bits6 (fun HT_ HW_ => ?_)
              generalize wr.drew = w25 at HB HR245 hx243_0 hx244_0 hx246_0 hx249_0 hHeld ⊢
              refine pure_ (i := 0) (N := some 23) (v := ?_) (a' := ?_) #[true, false, false, false, false, false, false, false, false, false, false, false, false, false, false, false, false, false, false, false, false, false, false, false, false, false, false, false, false, false, false, false, false, false, false] rfl rfl (any_of HT_.out (by kernel_rfl)) (fun _ _ _ h => h) (Or.inl ⟨by rfl, ?_⟩) ?_ ?_
              rotate_left; ·intro w'; go_simp; with_reducible rfl
              rotate_left; ·simp only [Act.put, sA_, sZ_, sS_, i64_w, i32_w]; rfl
              refine pure_ (i := 1) (N := some 24) (v := ?_) (a' := ?_) #[true, true, false, false, false, false, false, false, false, false, false, false, false, false, false, false, false, false, false, false, false, false, false, false, false, false, false, false, false, false, false, false, false, false, false] rfl rfl (any_of HT_.out (by kernel_rfl)) (fun _ _ _ h => h) (Or.inl ⟨by rfl, ?_⟩) ?_ ?_
              rotate_left; ·intro w'; go_simp; with_reducible rfl
              rotate_left; ·simp only [Act.put, sA_, sZ_, sS_, i64_w, i32_w]; rfl
              refine pure_ (i := 2) (N := some 25) (v := ?_) (a' := ?_) #[true, true, true, false, false, false, false, false, false, false, false, false, false, false, false, false, false, false, false, false, false, false, false, false, false, false, false, false, false, false, false, false, false, false, false] rfl rfl (any_of HT_.out (by kernel_rfl)) (fun _ _ _ h => h) (Or.inl ⟨by rfl, ?_⟩) ?_ ?_
              rotate_left; ·intro w'; go_simp; with_reducible rfl
              rotate_left; ·simp only [Act.put, sA_, sZ_, sS_, i64_w, i32_w]; rfl
              refine take_ (i := 3) (N := some 26) (v := ?_) (a' := ?_) #[true, true, true, true, false, false, false, false, false, false, false, false, false, false, false, false, false, false, false, false, false, false, false, false, false, false, false, false, false, false, false, false, false, false, false] rfl rfl (take_ofW HT_.out HW_.out (by kernel_rfl)) (fun _ _ _ h => h) (Or.inl ⟨by rfl, ?_⟩) hHeld ?_ ?_
              rotate_left
              ·rintro w' ⟨s0, s1, s2, s3⟩; go_simp; with_reducible rfl
              rotate_left; ·simp only [Act.put, sA_, sZ_, sS_, i64_w, i32_w]; rfl
              refine pure_ (i := 4) (N := some 27) (v := ?_) (a' := ?_) #[true, true, true, true, true, false, false, false, false, false, false, false, false, false, false, false, false, false, false, false, false, false, false, false, false, false, false, false, false, false, false, false, false, false, false] rfl rfl (any_of HT_.out (by kernel_rfl)) (fun _ _ _ h => h) (Or.inl ⟨by rfl, ?_⟩) ?_ ?_
              rotate_left; ·intro w'; go_simp; with_reducible rfl
              rotate_left; ·simp only [Act.put, sA_, sZ_, sS_, i64_w, i32_w]; rfl
              refine pure_ (i := 5) (N := some 28) (v := ?_) (a' := ?_) #[true, true, true, true, true, true, false, false, false, false, false, false, false, false, false, false, false, false, false, false, false, false, false, false, false, false, false, false, false, false, false, false, false, false, false] rfl rfl (any_of HT_.out (by kernel_rfl)) (fun _ _ _ h => h) (Or.inl ⟨by rfl, ?_⟩) ?_ ?_
              rotate_left; ·intro w'; go_simp; with_reducible rfl
              rotate_left; ·simp only [Act.put, sA_, sZ_, sS_, i64_w, i32_w]; rfl
              refine pure_ (i := 6) (N := some 29) (v := ?_) (a' := ?_) #[true, true, true, true, true, true, true, false, false, false, false, false, false, false, false, false, false, false, false, false, false, false, false, false, false, false, false, false, false, false, false, false, false, false, false] rfl rfl (any_of HT_.out (by kernel_rfl)) (fun _ _ _ h => h) (Or.inl ⟨by rfl, ?_⟩) ?_ ?_
              rotate_left; ·intro w'; go_simp; with_reducible rfl
              rotate_left; ·simp only [Act.put, sA_, sZ_, sS_, i64_w, i32_w]; rfl
              refine pure_ (i := 7) (N := some 30) (v := ?_) (a' := ?_) #[true, true, true, true, true, true, true, true, false, false, false, false, false, false, false, false, false, false, false, false, false, false, false, false, false, false, false, false, false, false, false, false, false, false, false] rfl rfl (any_of HT_.out (by kernel_rfl)) (fun _ _ _ h => h) (Or.inl ⟨by rfl, ?_⟩) ?_ ?_
              rotate_left; ·intro w'; go_simp; with_reducible rfl
              rotate_left; ·simp only [Act.put, sA_, sZ_, sS_, i64_w, i32_w]; rfl
              refine pure_ (i := 8) (N := some 31) (v := ?_) (a' := ?_) #[true, true, true, true, true, true, true, true, true, false, false, false, false, false, false, false, false, false, false, false, false, false, false, false, false, false, false, false, false, false, false, false, false, false, false] rfl rfl (any_of HT_.out (by kernel_rfl)) (fun _ _ _ h => h) (Or.inl ⟨by rfl, ?_⟩) ?_ ?_
              rotate_left; ·intro w'; go_simp; with_reducible rfl
              rotate_left; ·simp only [Act.put, sA_, sZ_, sS_, i64_w, i32_w]; rfl
              refine pure_ (i := 10) (N := some 33) (v := ?_) (a' := ?_) #[true, true, true, true, true, true, true, true, true, false, true, false, false, false, false, false, false, false, false, false, false, false, false, false, false, false, false, false, false, false, false, false, false, false, false] rfl rfl (any_of HT_.out (by kernel_rfl)) (fun _ _ _ h => h) (Or.inl ⟨by rfl, ?_⟩) ?_ ?_
              rotate_left; ·intro w'; go_simp; with_reducible rfl
              rotate_left; ·simp only [Act.put, sA_, sZ_, sS_, i64_w, i32_w]; rfl
              refine take_ (i := 9) (N := some 32) (v := ?_) (a' := ?_) #[true, true, true, true, true, true, true, true, true, true, true, false, false, false, false, false, false, false, false, false, false, false, false, false, false, false, false, false, false, false, false, false, false, false, false] rfl rfl (take_ofW HT_.out HW_.out (by kernel_rfl)) (fun _ _ _ h => h) (Or.inl ⟨by rfl, ?_⟩) hHeld ?_ ?_
              rotate_left
              ·rintro w' ⟨s0, s1, s2, s3⟩; go_simp; with_reducible rfl
              rotate_left; ·simp only [Act.put, sA_, sZ_, sS_, i64_w, i32_w]; rfl
              refine pure_ (i := 11) (N := some 34) (v := ?_) (a' := ?_) #[true, true, true, true, true, true, true, true, true, true, true, true, false, false, false, false, false, false, false, false, false, false, false, false, false, false, false, false, false, false, false, false, false, false, false] rfl rfl (any_of HT_.out (by kernel_rfl)) (fun _ _ _ h => h) (Or.inl ⟨by rfl, ?_⟩) ?_ ?_
              rotate_left; ·intro w'; go_simp; with_reducible rfl
              rotate_left; ·simp only [Act.put, sA_, sZ_, sS_, i64_w, i32_w]; rfl
              refine pure_ (i := 12) (N := some 35) (v := ?_) (a' := ?_) #[true, true, true, true, true, true, true, true, true, true, true, true, true, false, false, false, false, false, false, false, false, false, false, false, false, false, false, false, false, false, false, false, false, false, false] rfl rfl (any_of HT_.out (by kernel_rfl)) (fun _ _ _ h => h) (Or.inl ⟨by rfl, ?_⟩) ?_ ?_
              rotate_left; ·intro w'; go_simp; with_reducible rfl
              rotate_left; ·simp only [Act.put, sA_, sZ_, sS_, i64_w, i32_w]; rfl
              refine pure_ (i := 13) (N := some 36) (v := ?_) (a' := ?_) #[true, true, true, true, true, true, true, true, true, true, true, true, true, true, false, false, false, false, false, false, false, false, false, false, false, false, false, false, false, false, false, false, false, false, false] rfl rfl (any_of HT_.out (by kernel_rfl)) (fun _ _ _ h => h) (Or.inl ⟨by rfl, ?_⟩) ?_ ?_
              rotate_left; ·intro w'; go_simp; with_reducible rfl
              rotate_left; ·simp only [Act.put, sA_, sZ_, sS_, i64_w, i32_w]; rfl
              refine pure_ (i := 14) (N := some 37) (v := ?_) (a' := ?_) #[true, true, true, true, true, true, true, true, true, true, true, true, true, true, true, false, false, false, false, false, false, false, false, false, false, false, false, false, false, false, false, false, false, false, false] rfl rfl (any_of HT_.out (by kernel_rfl)) (fun _ _ _ h => h) (Or.inl ⟨by rfl, ?_⟩) ?_ ?_
              rotate_left; ·intro w'; go_simp; with_reducible rfl
              rotate_left; ·simp only [Act.put, sA_, sZ_, sS_, i64_w, i32_w]; rfl
              refine pure_ (i := 15) (N := some 38) (v := ?_) (a' := ?_) #[true, true, true, true, true, true, true, true, true, true, true, true, true, true, true, true, false, false, false, false, false, false, false, false, false, false, false, false, false, false, false, false, false, false, false] rfl rfl (any_of HT_.out (by kernel_rfl)) (fun _ _ _ h => h) (Or.inl ⟨by rfl, ?_⟩) ?_ ?_
              rotate_left; ·intro w'; go_simp; with_reducible rfl
              rotate_left; ·simp only [Act.put, sA_, sZ_, sS_, i64_w, i32_w]; rfl
              refine pure_ (i := 16) (N := some 39) (v := ?_) (a' := ?_) #[true, true, true, true, true, true, true, true, true, true, true, true, true, true, true, true, true, false, false, false, false, false, false, false, false, false, false, false, false, false, false, false, false, false, false] rfl rfl (any_of HT_.out (by kernel_rfl)) (fun _ _ _ h => h) (Or.inl ⟨by rfl, ?_⟩) ?_ ?_
              rotate_left; ·intro w'; go_simp; with_reducible rfl
              rotate_left; ·simp only [Act.put, sA_, sZ_, sS_, i64_w, i32_w]; rfl
              refine pure_ (i := 17) (N := some 40) (v := ?_) (a' := ?_) #[true, true, true, true, true, true, true, true, true, true, true, true, true, true, true, true, true, true, false, false, false, false, false, false, false, false, false, false, false, false, false, false, false, false, false] rfl rfl (any_of HT_.out (by kernel_rfl)) (fun _ _ _ h => h) (Or.inl ⟨by rfl, ?_⟩) ?_ ?_
              rotate_left; ·intro w'; go_simp; with_reducible rfl
              rotate_left; ·simp only [Act.put, sA_, sZ_, sS_, i64_w, i32_w]; rfl
              refine pure_ (i := 18) (N := some 41) (v := ?_) (a' := ?_) #[true, true, true, true, true, true, true, true, true, true, true, true, true, true, true, true, true, true, true, false, false, false, false, false, false, false, false, false, false, false, false, false, false, false, false] rfl rfl (any_of HT_.out (by kernel_rfl)) (fun _ _ _ h => h) (Or.inl ⟨by rfl, ?_⟩) ?_ ?_
              rotate_left; ·intro w'; go_simp; with_reducible rfl
              rotate_left; ·simp only [Act.put, sA_, sZ_, sS_, i64_w, i32_w]; rfl
              refine pure_ (i := 19) (N := some 42) (v := ?_) (a' := ?_) #[true, true, true, true, true, true, true, true, true, true, true, true, true, true, true, true, true, true, true, true, false, false, false, false, false, false, false, false, false, false, false, false, false, false, false] rfl rfl (any_of HT_.out (by kernel_rfl)) (fun _ _ _ h => h) (Or.inl ⟨by rfl, ?_⟩) ?_ ?_
              rotate_left; ·intro w'; go_simp; with_reducible rfl
              rotate_left; ·simp only [Act.put, sA_, sZ_, sS_, i64_w, i32_w]; rfl
              refine take_ (i := 20) (N := some 43) (v := ?_) (a' := ?_) #[true, true, true, true, true, true, true, true, true, true, true, true, true, true, true, true, true, true, true, true, true, false, false, false, false, false, false, false, false, false, false, false, false, false, false] rfl rfl (take_ofW HT_.out HW_.out (by kernel_rfl)) (fun _ _ _ h => h) (Or.inl ⟨by rfl, ?_⟩) hHeld ?_ ?_
              rotate_left
              ·rintro w' ⟨s0, s1, s2, s3⟩; go_simp; with_reducible rfl
              rotate_left; ·simp only [Act.put, sA_, sZ_, sS_, i64_w, i32_w]; rfl
              refine one_ (i := 21) (N := some 44) #[true, true, true, true, true, true, true, true, true, true, true, true, true, true, true, true, true, true, true, true, true, true, false, false, false, false, false, false, false, false, false, false, false, false, false] rfl rfl (one_of HT_.out (by kernel_rfl)) (by decide) (fun K hK => ?_)
              refine goes_ Try.func40 (by kernel_rfl) rfl #[.slice (some ad243) (l2.take (x7_2 : Int).toNat).length c2, .int .i64 (rd l2 x7_2)] (by rfl) rfl rfl (by (try simp only [List.map_toArray, List.map_cons, List.map_nil]); first | done | (rw [show (l2.take (x7_2 : Int).toNat).length = x7_2.toNat from (by rw [List.length_take]; have h_ : (x7_2 : Int) ≤ (l2.length : Int) := of_decide_eq_true (by first | (with_reducible assumption) | assumption); omega)] <;> rfl) | rfl | (simp only [List.length_drop, List.length_take]; rfl)) ?_
              with_reducible refine (swarfref29_in.calls k2 _ _ (l2.take (x7_2 : Int).toNat) (rd l2 x7_2) false _ ?side1 ?side2 A17.out).mono ?_
              (case side1 => repeat (first | exact (Kd.C_below HR245.out HB.out) | (with_reducible refine Kd.C_alloc ?_ _) | (with_reducible refine Kd.C_drewN ?_ _) | (with_reducible refine Kd.C_drew ?_)))
              (case side2 => exact HC245.out)
              rintro e w' ⟨rfl, ⟨nd, rfl⟩⟩
              refine ⟨_, rfl, ?_⟩
              obtain ⟨i027, hi027, _, hsz27, _⟩ := info_parts info3
              obtain ⟨hcut27, hA27, hC27⟩ := print_take_of (P := Try.prog) (Value.int .i64) 0 31 3 .i64 Try.underlying31 hi027 hsz27 (some ad243) c2 l2 x7_2 (of_decide_eq_true (by first | (with_reducible assumption) | assumption)) (of_decide_eq_true (by first | (with_reducible assumption) | assumption)) HC2.out
              have HR248 := aK (Kd.C_of_reads (h1 := fun _ => rfl) (hA27 _ (Kd.reads_of_C HR2.out)))
              have HC248 := aK hC27; clear hA27 hC27 hi027 hsz27
              refine hK.out _ _ ⟨((HB.out.cell (World.block_lt_of_cell? w _ hw243_0)).trans hw243_0), ((HB.out.cell (World.block_lt_of_cell? w _ hw244_0)).trans hw244_0), ((HB.out.cell (World.block_lt_of_cell? w _ hw246_0)).trans hw246_0), ((HB.out.cell (World.block_lt_of_cell? w _ hw249_0)).trans hw249_0)⟩ (fun hHeld => ?_)
              clear hK K
              refine norm_ (a' := ?_) ?_ ?_
              rotate_left
              ·show Act.put _ (some 44) _ = _
               simp only [Act.put, sA_, sZ_, sS_, i64_w, i32_w]; rfl
              refine pure_ (i := 22) (N := some 45) (v := ?_) (a' := ?_) #[true, true, true, true, true, true, true, true, true, true, true, true, true, true, true, true, true, true, true, true, true, true, true, false, false, false, false, false, false, false, false, false, false, false, false] rfl rfl (any_of HT_.out (by kernel_rfl)) (fun _ _ _ h => h) (Or.inl ⟨by rfl, ?_⟩) ?_ ?_
              rotate_left; ·intro w'; go_simp; with_reducible rfl
              rotate_left; ·simp only [Act.put, sA_, sZ_, sS_, i64_w, i32_w]; rfl
              refine pure_ (i := 23) (N := some 46) (v := ?_) (a' := ?_) #[true, true, true, true, true, true, true, true, true, true, true, true, true, true, true, true, true, true, true, true, true, true, true, true, false, false, false, false, false, false, false, false, false, false, false] rfl rfl (any_of HT_.out (by kernel_rfl)) (fun _ _ _ h => h) (Or.inl ⟨by rfl, ?_⟩) ?_ ?_
              rotate_left; ·intro w'; go_simp; with_reducible rfl
              rotate_left; ·simp only [Act.put, sA_, sZ_, sS_, i64_w, i32_w]; rfl
              refine pure_ (i := 24) (N := some 47) (v := ?_) (a' := ?_) #[true, true, true, true, true, true, true, true, true, true, true, true, true, true, true, true, true, true, true, true, true, true, true, true, true, false, false, false, false, false, false, false, false, false, false] rfl rfl (any_of HT_.out (by kernel_rfl)) (fun _ _ _ h => h) (Or.inl ⟨by rfl, ?_⟩) ?_ ?_
              rotate_left; ·intro w'; go_simp; with_reducible rfl
              rotate_left; ·simp only [Act.put, sA_, sZ_, sS_, i64_w, i32_w]; rfl
              refine pure_ (i := 25) (N := some 48) (v := ?_) (a' := ?_) #[true, true, true, true, true, true, true, true, true, true, true, true, true, true, true, true, true, true, true, true, true, true, true, true, true, true, false, false, false, false, false, false, false, false, false] rfl rfl (any_of HT_.out (by kernel_rfl)) (fun _ _ _ h => h) (Or.inl ⟨by rfl, ?_⟩) ?_ ?_
              rotate_left; ·intro w'; go_simp; with_reducible rfl
              rotate_left; ·simp only [Act.put, sA_, sZ_, sS_, i64_w, i32_w]; rfl
              refine pure_ (i := 26) (N := some 49) (v := ?_) (a' := ?_) #[true, true, true, true, true, true, true, true, true, true, true, true, true, true, true, true, true, true, true, true, true, true, true, true, true, true, true, false, false, false, false, false, false, false, false] rfl rfl (any_of HT_.out (by kernel_rfl)) (fun _ _ _ h => h) (Or.inl ⟨by rfl, ?_⟩) ?_ ?_
              rotate_left; ·intro w'; go_simp; with_reducible rfl
              rotate_left; ·simp only [Act.put, sA_, sZ_, sS_, i64_w, i32_w]; rfl
              refine pure_ (i := 27) (N := some 50) (v := ?_) (a' := ?_) #[true, true, true, true, true, true, true, true, true, true, true, true, true, true, true, true, true, true, true, true, true, true, true, true, true, true, true, true, false, false, false, false, false, false, false] rfl rfl (any_of HT_.out (by kernel_rfl)) (fun _ _ _ h => h) (Or.inl ⟨by rfl, ?_⟩) ?_ ?_
              rotate_left; ·intro w'; go_simp; with_reducible rfl
              rotate_left; ·simp only [Act.put, sA_, sZ_, sS_, i64_w, i32_w]; rfl
              refine pure_ (i := 28) (N := some 51) (v := ?_) (a' := ?_) #[true, true, true, true, true, true, true, true, true, true, true, true, true, true, true, true, true, true, true, true, true, true, true, true, true, true, true, true, true, false, false, false, false, false, false] rfl rfl (any_of HT_.out (by kernel_rfl)) (fun _ _ _ h => h) (Or.inl ⟨by rfl, ?_⟩) ?_ ?_
              rotate_left; ·intro w'; go_simp; with_reducible rfl
              rotate_left; ·simp only [Act.put, sA_, sZ_, sS_, i64_w, i32_w]; rfl
              refine pure_ (i := 29) (N := some 52) (v := ?_) (a' := ?_) #[true, true, true, true, true, true, true, true, true, true, true, true, true, true, true, true, true, true, true, true, true, true, true, true, true, true, true, true, true, true, false, false, false, false, false] rfl rfl (any_of HT_.out (by kernel_rfl)) (fun _ _ _ h => h) (Or.inl ⟨by rfl, ?_⟩) ?_ ?_
              rotate_left; ·intro w'; go_simp; with_reducible rfl
              rotate_left; ·simp only [Act.put, sA_, sZ_, sS_, i64_w, i32_w]; rfl
              refine pure_ (i := 30) (N := some 53) (v := ?_) (a' := ?_) #[true, true, true, true, true, true, true, true, true, true, true, true, true, true, true, true, true, true, true, true, true, true, true, true, true, true, true, true, true, true, true, false, false, false, false] rfl rfl (any_of HT_.out (by kernel_rfl)) (fun _ _ _ h => h) (Or.inl ⟨by rfl, ?_⟩) ?_ ?_
              rotate_left; ·intro w'; go_simp; with_reducible rfl
              rotate_left; ·simp only [Act.put, sA_, sZ_, sS_, i64_w, i32_w]; rfl
              refine take_ (i := 31) (N := some 54) (v := ?_) (a' := ?_) #[true, true, true, true, true, true, true, true, true, true, true, true, true, true, true, true, true, true, true, true, true, true, true, true, true, true, true, true, true, true, true, true, false, false, false] rfl rfl (take_ofW HT_.out HW_.out (by kernel_rfl)) (fun _ _ _ h => h) (Or.inl ⟨by rfl, ?_⟩) hHeld ?_ ?_
              rotate_left
              ·rintro w' ⟨s0, s1, s2, s3⟩; go_simp; with_reducible rfl
              rotate_left; ·simp only [Act.put, sA_, sZ_, sS_, i64_w, i32_w]; rfl
              refine one_ (i := 32) (N := some 55) #[true, true, true, true, true, true, true, true, true, true, true, true, true, true, true, true, true, true, true, true, true, true, true, true, true, true, true, true, true, true, true, true, true, false, false] rfl rfl (one_of HT_.out (by kernel_rfl)) (by decide) (fun K hK => ?_)
              refine goes_ Try.func41 (by kernel_rfl) rfl #[.slice A1 l1.length c1, .slice (some ad243) (l2.take (x7_2 : Int).toNat).length c2, .int .i64 (rd l2 x7_2)] (by rfl) rfl rfl (by (try simp only [List.map_toArray, List.map_cons, List.map_nil]); first | done | (rw [show (l2.take (x7_2 : Int).toNat).length = x7_2.toNat from (by rw [List.length_take]; have h_ : (x7_2 : Int) ≤ (l2.length : Int) := of_decide_eq_true (by first | (with_reducible assumption) | assumption); omega)] <;> rfl) | rfl | (simp only [List.length_drop, List.length_take]; rfl)) ?_
              with_reducible refine (swarfref29_ready.calls k2 _ _ l1 _ _ (l2.take (x7_2 : Int).toNat) (rd l2 x7_2) true _ ?side1 ?side2 ?side3 ?side4 A23.out).mono ?_
              (case side1 => repeat (first | exact (Kd.C_below HR1.out (by repeat (first | (with_reducible first | exact HB.out | apply bA_ | apply bN_ | apply bD_) | exact HB.out))) | (with_reducible refine Kd.C_alloc ?_ _) | (with_reducible refine Kd.C_drewN ?_ _) | (with_reducible refine Kd.C_drew ?_)))
              (case side2 => exact HC1.out)
              (case side3 => repeat (first | exact (Kd.C_below HR248.out (by repeat (first | (with_reducible first | exact HB.out | apply bA_ | apply bN_ | apply bD_) | exact HB.out))) | (with_reducible refine Kd.C_alloc ?_ _) | (with_reducible refine Kd.C_drewN ?_ _) | (with_reducible refine Kd.C_drew ?_)))
              (case side4 => exact HC248.out)
              rintro e w' ⟨rfl, ⟨nd, rfl⟩⟩
              refine ⟨_, rfl, ?_⟩
              refine hK.out _ _ ⟨((HB.out.cell (World.block_lt_of_cell? w _ hw243_0)).trans hw243_0), ((HB.out.cell (World.block_lt_of_cell? w _ hw244_0)).trans hw244_0), ((HB.out.cell (World.block_lt_of_cell? w _ hw246_0)).trans hw246_0), ((HB.out.cell (World.block_lt_of_cell? w _ hw249_0)).trans hw249_0)⟩ (fun hHeld => ?_)
              clear hK K
              refine norm_ (a' := ?_) ?_ ?_
              rotate_left
              ·show Act.put _ (some 55) _ = _
               simp only [Act.put, sA_, sZ_, sS_, i64_w, i32_w]; rfl
              refine pure_ (i := 33) (N := some 56) (v := ?_) (a' := ?_) #[true, true, true, true, true, true, true, true, true, true, true, true, true, true, true, true, true, true, true, true, true, true, true, true, true, true, true, true, true, true, true, true, true, true, false] rfl rfl (any_of HT_.out (by kernel_rfl)) (fun _ _ _ h => h) (Or.inl ⟨by rfl, ?_⟩) ?_ ?_
              rotate_left; ·intro w'; go_simp; with_reducible rfl
              rotate_left; ·simp only [Act.put, sA_, sZ_, sS_, i64_w, i32_w]; rfl
              refine pure_ (i := 34) (N := some 57) (v := ?_) (a' := ?_) #[true, true, true, true, true, true, true, true, true, true, true, true, true, true, true, true, true, true, true, true, true, true, true, true, true, true, true, true, true, true, true, true, true, true, true] rfl rfl (any_of HT_.out (by kernel_rfl)) (fun _ _ _ h => h) (Or.inl ⟨by rfl, ?_⟩) ?_ ?_
              rotate_left; ·intro w'; go_simp; with_reducible rfl
              rotate_left; ·simp only [Act.put, sA_, sZ_, sS_, i64_w, i32_w]; rfl
              refine done_ (done_of HT_.out (by kernel_rfl)) ?_
              try go_wp2
              go_roundg k2
              case measure => have := HJ3.out; have := HK2.out; omega
              case rel => exact ⟨(wrap64 (x7_2 + 1)), (by first | rfl | (simp; done) | (simp [*]; done)), H', ⟨by have := HJ3.out; have := HK2.out; omega⟩, ⟨by repeat (first | (with_reducible first | exact HB.out | apply bA_ | apply bN_ | apply bD_) | exact HB.out)⟩⟩
             ·replace c24 := Bool.eq_false_iff.mpr c24
              subst c24
              have H1 : (some false) = some r := by rw [if_neg (show ¬ (false = true) by decide)] at H; exact H
              clear H; have H := H1; clear H1; obtain rfl := Option.some.inj H
              try go_wp2
              have n0_ := aK (bD_ HB.out)
              clear HB; have HB := n0_; clear n0_
              have p243 : 0 ≤ (x7_2 : Int) := of_decide_eq_true (by first | (with_reducible assumption) | assumption)
              have q243 : x7_2 < (l2.length : Int) := of_decide_eq_true (by first | (with_reducible assumption) | assumption)
              obtain ⟨ad243, e243, hx243_0⟩ := Kd.at_int HR2.out x7_2 p243 q243
              have hw243_0 := hx243_0; cases e243
              replace hx243_0 := (HB.out.cell (World.block_lt_of_cell? w _ hx243_0)).trans hx243_0
              replace p243 := eq_true p243; replace q243 := eq_true q243
              have p244 : 0 ≤ (x7_2 : Int) := of_decide_eq_true (by first | (with_reducible assumption) | assumption)
              have q244 : x7_2 < (l2.length : Int) := of_decide_eq_true (by first | (with_reducible assumption) | assumption)
              obtain ⟨ad244, e244, hx244_0⟩ := Kd.at_int HR2.out x7_2 p244 q244
              have hw244_0 := hx244_0
              obtain rfl : ad243 = ad244 := (by injection e244)
              replace hx244_0 := (HB.out.cell (World.block_lt_of_cell? w _ hx244_0)).trans hx244_0
              replace p244 := eq_true p244; replace q244 := eq_true q244
              obtain ⟨i029, hi029, _, hsz29, _⟩ := info_parts info3
              obtain ⟨hcut29, hA29, hC29⟩ := print_take_of (P := Try.prog) (Value.int .i64) 0 31 3 .i64 Try.underlying31 hi029 hsz29 (some ad243) c2 l2 x7_2 (of_decide_eq_true (by first | (with_reducible assumption) | assumption)) (of_decide_eq_true (by first | (with_reducible assumption) | assumption)) HC2.out
              have HR245 := aK (Kd.C_of_reads (h1 := fun _ => rfl) (hA29 _ (Kd.reads_of_C HR2.out)))
              have HC245 := aK hC29; clear hA29 hC29 hi029 hsz29
              have p246 : 0 ≤ (x7_2 : Int) := of_decide_eq_true (by first | (with_reducible assumption) | assumption)
              have q246 : x7_2 < (l2.length : Int) := of_decide_eq_true (by first | (with_reducible assumption) | assumption)
              obtain ⟨ad246, e246, hx246_0⟩ := Kd.at_int HR2.out x7_2 p246 q246
              have hw246_0 := hx246_0
              obtain rfl : ad243 = ad246 := (by injection e246)
              replace hx246_0 := (HB.out.cell (World.block_lt_of_cell? w _ hx246_0)).trans hx246_0
              replace p246 := eq_true p246; replace q246 := eq_true q246
              have p249 : 0 ≤ (x7_2 : Int) := of_decide_eq_true (by first | (with_reducible assumption) | assumption)
              have q249 : x7_2 < (l2.length : Int) := of_decide_eq_true (by first | (with_reducible assumption) | assumption)
              obtain ⟨ad249, e249, hx249_0⟩ := Kd.at_int HR2.out x7_2 p249 q249
              have hw249_0 := hx249_0
              obtain rfl : ad243 = ad249 := (by injection e249)
              replace hx249_0 := (HB.out.cell (World.block_lt_of_cell? w _ hx249_0)).trans hx249_0
              replace p249 := eq_true p249; replace q249 := eq_true q249
              refine start_ (n := 35) (S := fun w' => w'.cell? (ad243.add (x7_2).toNat) = some (.int .i64 (rd l2 x7_2)) ∧ w'.cell? (ad243.add (x7_2).toNat) = some (.int .i64 (rd l2 x7_2)) ∧ w'.cell? (ad243.add (x7_2).toNat) = some (.int .i64 (rd l2 x7_2)) ∧ w'.cell? (ad243.add (x7_2).toNat) = some (.int .i64 (rd l2 x7_2))) (ds := []) #[false, false, false, false, false, false, false, false, false, false, false, false, false, false, false, false, false, false, false, false, false, false, false, false, false, false, false, false, false, false, false, false, false, false, false] (by kernel_rfl) rfl rfl ⟨((HB.out.cell (World.block_lt_of_cell? w _ hw243_0)).trans hw243_0), ((HB.out.cell (World.block_lt_of_cell? w _ hw244_0)).trans hw244_0), ((HB.out.cell (World.block_lt_of_cell? w _ hw246_0)).trans hw246_0), ((HB.out.cell (World.block_lt_of_cell? w _ hw249_0)).trans hw249_0)⟩ (fun hHeld => ?_); refine with_tabW swarfref29_Linear.tab6 swarfref29_Linear.bits6 (fun HT_ HW_ => ?_)
              generalize wr.drew = w28 at HB HR245 hx243_0 hx244_0 hx246_0 hx249_0 hHeld ⊢
              refine pure_ (i := 0) (N := some 23) (v := ?_) (a' := ?_) #[true, false, false, false, false, false, false, false, false, false, false, false, false, false, false, false, false, false, false, false, false, false, false, false, false, false, false, false, false, false, false, false, false, false, false] rfl rfl (any_of HT_.out (by kernel_rfl)) (fun _ _ _ h => h) (Or.inl ⟨by rfl, ?_⟩) ?_ ?_
              rotate_left; ·intro w'; go_simp; with_reducible rfl
              rotate_left; ·simp only [Act.put, sA_, sZ_, sS_, i64_w, i32_w]; rfl
              refine pure_ (i := 1) (N := some 24) (v := ?_) (a' := ?_) #[true, true, false, false, false, false, false, false, false, false, false, false, false, false, false, false, false, false, false, false, false, false, false, false, false, false, false, false, false, false, false, false, false, false, false] rfl rfl (any_of HT_.out (by kernel_rfl)) (fun _ _ _ h => h) (Or.inl ⟨by rfl, ?_⟩) ?_ ?_
              rotate_left; ·intro w'; go_simp; with_reducible rfl
              rotate_left; ·simp only [Act.put, sA_, sZ_, sS_, i64_w, i32_w]; rfl
              refine pure_ (i := 2) (N := some 25) (v := ?_) (a' := ?_) #[true, true, true, false, false, false, false, false, false, false, false, false, false, false, false, false, false, false, false, false, false, false, false, false, false, false, false, false, false, false, false, false, false, false, false] rfl rfl (any_of HT_.out (by kernel_rfl)) (fun _ _ _ h => h) (Or.inl ⟨by rfl, ?_⟩) ?_ ?_
              rotate_left; ·intro w'; go_simp; with_reducible rfl
              rotate_left; ·simp only [Act.put, sA_, sZ_, sS_, i64_w, i32_w]; rfl
              refine take_ (i := 3) (N := some 26) (v := ?_) (a' := ?_) #[true, true, true, true, false, false, false, false, false, false, false, false, false, false, false, false, false, false, false, false, false, false, false, false, false, false, false, false, false, false, false, false, false, false, false] rfl rfl (take_ofW HT_.out HW_.out (by kernel_rfl)) (fun _ _ _ h => h) (Or.inl ⟨by rfl, ?_⟩) hHeld ?_ ?_
              rotate_left
              ·rintro w' ⟨s0, s1, s2, s3⟩; go_simp; with_reducible rfl
              rotate_left; ·simp only [Act.put, sA_, sZ_, sS_, i64_w, i32_w]; rfl
              refine pure_ (i := 4) (N := some 27) (v := ?_) (a' := ?_) #[true, true, true, true, true, false, false, false, false, false, false, false, false, false, false, false, false, false, false, false, false, false, false, false, false, false, false, false, false, false, false, false, false, false, false] rfl rfl (any_of HT_.out (by kernel_rfl)) (fun _ _ _ h => h) (Or.inl ⟨by rfl, ?_⟩) ?_ ?_
              rotate_left; ·intro w'; go_simp; with_reducible rfl
              rotate_left; ·simp only [Act.put, sA_, sZ_, sS_, i64_w, i32_w]; rfl
              refine pure_ (i := 5) (N := some 28) (v := ?_) (a' := ?_) #[true, true, true, true, true, true, false, false, false, false, false, false, false, false, false, false, false, false, false, false, false, false, false, false, false, false, false, false, false, false, false, false, false, false, false] rfl rfl (any_of HT_.out (by kernel_rfl)) (fun _ _ _ h => h) (Or.inl ⟨by rfl, ?_⟩) ?_ ?_
              rotate_left; ·intro w'; go_simp; with_reducible rfl
              rotate_left; ·simp only [Act.put, sA_, sZ_, sS_, i64_w, i32_w]; rfl
              refine pure_ (i := 6) (N := some 29) (v := ?_) (a' := ?_) #[true, true, true, true, true, true, true, false, false, false, false, false, false, false, false, false, false, false, false, false, false, false, false, false, false, false, false, false, false, false, false, false, false, false, false] rfl rfl (any_of HT_.out (by kernel_rfl)) (fun _ _ _ h => h) (Or.inl ⟨by rfl, ?_⟩) ?_ ?_
              rotate_left; ·intro w'; go_simp; with_reducible rfl
              rotate_left; ·simp only [Act.put, sA_, sZ_, sS_, i64_w, i32_w]; rfl
              refine pure_ (i := 7) (N := some 30) (v := ?_) (a' := ?_) #[true, true, true, true, true, true, true, true, false, false, false, false, false, false, false, false, false, false, false, false, false, false, false, false, false, false, false, false, false, false, false, false, false, false, false] rfl rfl (any_of HT_.out (by kernel_rfl)) (fun _ _ _ h => h) (Or.inl ⟨by rfl, ?_⟩) ?_ ?_
              rotate_left; ·intro w'; go_simp; with_reducible rfl
              rotate_left; ·simp only [Act.put, sA_, sZ_, sS_, i64_w, i32_w]; rfl
              refine pure_ (i := 8) (N := some 31) (v := ?_) (a' := ?_) #[true, true, true, true, true, true, true, true, true, false, false, false, false, false, false, false, false, false, false, false, false, false, false, false, false, false, false, false, false, false, false, false, false, false, false] rfl rfl (any_of HT_.out (by kernel_rfl)) (fun _ _ _ h => h) (Or.inl ⟨by rfl, ?_⟩) ?_ ?_
              rotate_left; ·intro w'; go_simp; with_reducible rfl
              rotate_left; ·simp only [Act.put, sA_, sZ_, sS_, i64_w, i32_w]; rfl
              refine pure_ (i := 10) (N := some 33) (v := ?_) (a' := ?_) #[true, true, true, true, true, true, true, true, true, false, true, false, false, false, false, false, false, false, false, false, false, false, false, false, false, false, false, false, false, false, false, false, false, false, false] rfl rfl (any_of HT_.out (by kernel_rfl)) (fun _ _ _ h => h) (Or.inl ⟨by rfl, ?_⟩) ?_ ?_
              rotate_left; ·intro w'; go_simp; with_reducible rfl
              rotate_left; ·simp only [Act.put, sA_, sZ_, sS_, i64_w, i32_w]; rfl
              refine take_ (i := 9) (N := some 32) (v := ?_) (a' := ?_) #[true, true, true, true, true, true, true, true, true, true, true, false, false, false, false, false, false, false, false, false, false, false, false, false, false, false, false, false, false, false, false, false, false, false, false] rfl rfl (take_ofW HT_.out HW_.out (by kernel_rfl)) (fun _ _ _ h => h) (Or.inl ⟨by rfl, ?_⟩) hHeld ?_ ?_
              rotate_left
              ·rintro w' ⟨s0, s1, s2, s3⟩; go_simp; with_reducible rfl
              rotate_left; ·simp only [Act.put, sA_, sZ_, sS_, i64_w, i32_w]; rfl
              refine pure_ (i := 11) (N := some 34) (v := ?_) (a' := ?_) #[true, true, true, true, true, true, true, true, true, true, true, true, false, false, false, false, false, false, false, false, false, false, false, false, false, false, false, false, false, false, false, false, false, false, false] rfl rfl (any_of HT_.out (by kernel_rfl)) (fun _ _ _ h => h) (Or.inl ⟨by rfl, ?_⟩) ?_ ?_
              rotate_left; ·intro w'; go_simp; with_reducible rfl
              rotate_left; ·simp only [Act.put, sA_, sZ_, sS_, i64_w, i32_w]; rfl
              refine pure_ (i := 12) (N := some 35) (v := ?_) (a' := ?_) #[true, true, true, true, true, true, true, true, true, true, true, true, true, false, false, false, false, false, false, false, false, false, false, false, false, false, false, false, false, false, false, false, false, false, false] rfl rfl (any_of HT_.out (by kernel_rfl)) (fun _ _ _ h => h) (Or.inl ⟨by rfl, ?_⟩) ?_ ?_
              rotate_left; ·intro w'; go_simp; with_reducible rfl
              rotate_left; ·simp only [Act.put, sA_, sZ_, sS_, i64_w, i32_w]; rfl
              refine pure_ (i := 13) (N := some 36) (v := ?_) (a' := ?_) #[true, true, true, true, true, true, true, true, true, true, true, true, true, true, false, false, false, false, false, false, false, false, false, false, false, false, false, false, false, false, false, false, false, false, false] rfl rfl (any_of HT_.out (by kernel_rfl)) (fun _ _ _ h => h) (Or.inl ⟨by rfl, ?_⟩) ?_ ?_
              rotate_left; ·intro w'; go_simp; with_reducible rfl
              rotate_left; ·simp only [Act.put, sA_, sZ_, sS_, i64_w, i32_w]; rfl
              refine pure_ (i := 14) (N := some 37) (v := ?_) (a' := ?_) #[true, true, true, true, true, true, true, true, true, true, true, true, true, true, true, false, false, false, false, false, false, false, false, false, false, false, false, false, false, false, false, false, false, false, false] rfl rfl (any_of HT_.out (by kernel_rfl)) (fun _ _ _ h => h) (Or.inl ⟨by rfl, ?_⟩) ?_ ?_
              rotate_left; ·intro w'; go_simp; with_reducible rfl
              rotate_left; ·simp only [Act.put, sA_, sZ_, sS_, i64_w, i32_w]; rfl
              refine pure_ (i := 15) (N := some 38) (v := ?_) (a' := ?_) #[true, true, true, true, true, true, true, true, true, true, true, true, true, true, true, true, false, false, false, false, false, false, false, false, false, false, false, false, false, false, false, false, false, false, false] rfl rfl (any_of HT_.out (by kernel_rfl)) (fun _ _ _ h => h) (Or.inl ⟨by rfl, ?_⟩) ?_ ?_
              rotate_left; ·intro w'; go_simp; with_reducible rfl
              rotate_left; ·simp only [Act.put, sA_, sZ_, sS_, i64_w, i32_w]; rfl
              refine pure_ (i := 16) (N := some 39) (v := ?_) (a' := ?_) #[true, true, true, true, true, true, true, true, true, true, true, true, true, true, true, true, true, false, false, false, false, false, false, false, false, false, false, false, false, false, false, false, false, false, false] rfl rfl (any_of HT_.out (by kernel_rfl)) (fun _ _ _ h => h) (Or.inl ⟨by rfl, ?_⟩) ?_ ?_
              rotate_left; ·intro w'; go_simp; with_reducible rfl
              rotate_left; ·simp only [Act.put, sA_, sZ_, sS_, i64_w, i32_w]; rfl
              refine pure_ (i := 17) (N := some 40) (v := ?_) (a' := ?_) #[true, true, true, true, true, true, true, true, true, true, true, true, true, true, true, true, true, true, false, false, false, false, false, false, false, false, false, false, false, false, false, false, false, false, false] rfl rfl (any_of HT_.out (by kernel_rfl)) (fun _ _ _ h => h) (Or.inl ⟨by rfl, ?_⟩) ?_ ?_
              rotate_left; ·intro w'; go_simp; with_reducible rfl
              rotate_left; ·simp only [Act.put, sA_, sZ_, sS_, i64_w, i32_w]; rfl
              refine pure_ (i := 18) (N := some 41) (v := ?_) (a' := ?_) #[true, true, true, true, true, true, true, true, true, true, true, true, true, true, true, true, true, true, true, false, false, false, false, false, false, false, false, false, false, false, false, false, false, false, false] rfl rfl (any_of HT_.out (by kernel_rfl)) (fun _ _ _ h => h) (Or.inl ⟨by rfl, ?_⟩) ?_ ?_
              rotate_left; ·intro w'; go_simp; with_reducible rfl
              rotate_left; ·simp only [Act.put, sA_, sZ_, sS_, i64_w, i32_w]; rfl
              refine pure_ (i := 19) (N := some 42) (v := ?_) (a' := ?_) #[true, true, true, true, true, true, true, true, true, true, true, true, true, true, true, true, true, true, true, true, false, false, false, false, false, false, false, false, false, false, false, false, false, false, false] rfl rfl (any_of HT_.out (by kernel_rfl)) (fun _ _ _ h => h) (Or.inl ⟨by rfl, ?_⟩) ?_ ?_
              rotate_left; ·intro w'; go_simp; with_reducible rfl
              rotate_left; ·simp only [Act.put, sA_, sZ_, sS_, i64_w, i32_w]; rfl
              refine take_ (i := 20) (N := some 43) (v := ?_) (a' := ?_) #[true, true, true, true, true, true, true, true, true, true, true, true, true, true, true, true, true, true, true, true, true, false, false, false, false, false, false, false, false, false, false, false, false, false, false] rfl rfl (take_ofW HT_.out HW_.out (by kernel_rfl)) (fun _ _ _ h => h) (Or.inl ⟨by rfl, ?_⟩) hHeld ?_ ?_
              rotate_left
              ·rintro w' ⟨s0, s1, s2, s3⟩; go_simp; with_reducible rfl
              rotate_left; ·simp only [Act.put, sA_, sZ_, sS_, i64_w, i32_w]; rfl
              refine one_ (i := 21) (N := some 44) #[true, true, true, true, true, true, true, true, true, true, true, true, true, true, true, true, true, true, true, true, true, true, false, false, false, false, false, false, false, false, false, false, false, false, false] rfl rfl (one_of HT_.out (by kernel_rfl)) (by decide) (fun K hK => ?_)
              refine goes_ Try.func40 (by kernel_rfl) rfl #[.slice (some ad243) (l2.take (x7_2 : Int).toNat).length c2, .int .i64 (rd l2 x7_2)] (by rfl) rfl rfl (by (try simp only [List.map_toArray, List.map_cons, List.map_nil]); first | done | (rw [show (l2.take (x7_2 : Int).toNat).length = x7_2.toNat from (by rw [List.length_take]; have h_ : (x7_2 : Int) ≤ (l2.length : Int) := of_decide_eq_true (by first | (with_reducible assumption) | assumption); omega)] <;> rfl) | rfl | (simp only [List.length_drop, List.length_take]; rfl)) ?_
              with_reducible refine (swarfref29_in.calls k2 _ _ (l2.take (x7_2 : Int).toNat) (rd l2 x7_2) false _ ?side1 ?side2 A17.out).mono ?_
              (case side1 => repeat (first | exact (Kd.C_below HR245.out HB.out) | (with_reducible refine Kd.C_alloc ?_ _) | (with_reducible refine Kd.C_drewN ?_ _) | (with_reducible refine Kd.C_drew ?_)))
              (case side2 => exact HC245.out)
              rintro e w' ⟨rfl, ⟨nd, rfl⟩⟩
              refine ⟨_, rfl, ?_⟩
              obtain ⟨i030, hi030, _, hsz30, _⟩ := info_parts info3
              obtain ⟨hcut30, hA30, hC30⟩ := print_take_of (P := Try.prog) (Value.int .i64) 0 31 3 .i64 Try.underlying31 hi030 hsz30 (some ad243) c2 l2 x7_2 (of_decide_eq_true (by first | (with_reducible assumption) | assumption)) (of_decide_eq_true (by first | (with_reducible assumption) | assumption)) HC2.out
              have HR248 := aK (Kd.C_of_reads (h1 := fun _ => rfl) (hA30 _ (Kd.reads_of_C HR2.out)))
              have HC248 := aK hC30; clear hA30 hC30 hi030 hsz30
              refine hK.out _ _ ⟨((HB.out.cell (World.block_lt_of_cell? w _ hw243_0)).trans hw243_0), ((HB.out.cell (World.block_lt_of_cell? w _ hw244_0)).trans hw244_0), ((HB.out.cell (World.block_lt_of_cell? w _ hw246_0)).trans hw246_0), ((HB.out.cell (World.block_lt_of_cell? w _ hw249_0)).trans hw249_0)⟩ (fun hHeld => ?_)
              clear hK K
              refine norm_ (a' := ?_) ?_ ?_
              rotate_left
              ·show Act.put _ (some 44) _ = _
               simp only [Act.put, sA_, sZ_, sS_, i64_w, i32_w]; rfl
              refine pure_ (i := 22) (N := some 45) (v := ?_) (a' := ?_) #[true, true, true, true, true, true, true, true, true, true, true, true, true, true, true, true, true, true, true, true, true, true, true, false, false, false, false, false, false, false, false, false, false, false, false] rfl rfl (any_of HT_.out (by kernel_rfl)) (fun _ _ _ h => h) (Or.inl ⟨by rfl, ?_⟩) ?_ ?_
              rotate_left; ·intro w'; go_simp; with_reducible rfl
              rotate_left; ·simp only [Act.put, sA_, sZ_, sS_, i64_w, i32_w]; rfl
              refine pure_ (i := 23) (N := some 46) (v := ?_) (a' := ?_) #[true, true, true, true, true, true, true, true, true, true, true, true, true, true, true, true, true, true, true, true, true, true, true, true, false, false, false, false, false, false, false, false, false, false, false] rfl rfl (any_of HT_.out (by kernel_rfl)) (fun _ _ _ h => h) (Or.inl ⟨by rfl, ?_⟩) ?_ ?_
              rotate_left; ·intro w'; go_simp; with_reducible rfl
              rotate_left; ·simp only [Act.put, sA_, sZ_, sS_, i64_w, i32_w]; rfl
              refine pure_ (i := 24) (N := some 47) (v := ?_) (a' := ?_) #[true, true, true, true, true, true, true, true, true, true, true, true, true, true, true, true, true, true, true, true, true, true, true, true, true, false, false, false, false, false, false, false, false, false, false] rfl rfl (any_of HT_.out (by kernel_rfl)) (fun _ _ _ h => h) (Or.inl ⟨by rfl, ?_⟩) ?_ ?_
              rotate_left; ·intro w'; go_simp; with_reducible rfl
              rotate_left; ·simp only [Act.put, sA_, sZ_, sS_, i64_w, i32_w]; rfl
              refine pure_ (i := 25) (N := some 48) (v := ?_) (a' := ?_) #[true, true, true, true, true, true, true, true, true, true, true, true, true, true, true, true, true, true, true, true, true, true, true, true, true, true, false, false, false, false, false, false, false, false, false] rfl rfl (any_of HT_.out (by kernel_rfl)) (fun _ _ _ h => h) (Or.inl ⟨by rfl, ?_⟩) ?_ ?_
              rotate_left; ·intro w'; go_simp; with_reducible rfl
              rotate_left; ·simp only [Act.put, sA_, sZ_, sS_, i64_w, i32_w]; rfl
              refine pure_ (i := 26) (N := some 49) (v := ?_) (a' := ?_) #[true, true, true, true, true, true, true, true, true, true, true, true, true, true, true, true, true, true, true, true, true, true, true, true, true, true, true, false, false, false, false, false, false, false, false] rfl rfl (any_of HT_.out (by kernel_rfl)) (fun _ _ _ h => h) (Or.inl ⟨by rfl, ?_⟩) ?_ ?_
              rotate_left; ·intro w'; go_simp; with_reducible rfl
              rotate_left; ·simp only [Act.put, sA_, sZ_, sS_, i64_w, i32_w]; rfl
              refine pure_ (i := 27) (N := some 50) (v := ?_) (a' := ?_) #[true, true, true, true, true, true, true, true, true, true, true, true, true, true, true, true, true, true, true, true, true, true, true, true, true, true, true, true, false, false, false, false, false, false, false] rfl rfl (any_of HT_.out (by kernel_rfl)) (fun _ _ _ h => h) (Or.inl ⟨by rfl, ?_⟩) ?_ ?_
              rotate_left; ·intro w'; go_simp; with_reducible rfl
              rotate_left; ·simp only [Act.put, sA_, sZ_, sS_, i64_w, i32_w]; rfl
              refine pure_ (i := 28) (N := some 51) (v := ?_) (a' := ?_) #[true, true, true, true, true, true, true, true, true, true, true, true, true, true, true, true, true, true, true, true, true, true, true, true, true, true, true, true, true, false, false, false, false, false, false] rfl rfl (any_of HT_.out (by kernel_rfl)) (fun _ _ _ h => h) (Or.inl ⟨by rfl, ?_⟩) ?_ ?_
              rotate_left; ·intro w'; go_simp; with_reducible rfl
              rotate_left; ·simp only [Act.put, sA_, sZ_, sS_, i64_w, i32_w]; rfl
              refine pure_ (i := 29) (N := some 52) (v := ?_) (a' := ?_) #[true, true, true, true, true, true, true, true, true, true, true, true, true, true, true, true, true, true, true, true, true, true, true, true, true, true, true, true, true, true, false, false, false, false, false] rfl rfl (any_of HT_.out (by kernel_rfl)) (fun _ _ _ h => h) (Or.inl ⟨by rfl, ?_⟩) ?_ ?_
              rotate_left; ·intro w'; go_simp; with_reducible rfl
              rotate_left; ·simp only [Act.put, sA_, sZ_, sS_, i64_w, i32_w]; rfl
              refine pure_ (i := 30) (N := some 53) (v := ?_) (a' := ?_) #[true, true, true, true, true, true, true, true, true, true, true, true, true, true, true, true, true, true, true, true, true, true, true, true, true, true, true, true, true, true, true, false, false, false, false] rfl rfl (any_of HT_.out (by kernel_rfl)) (fun _ _ _ h => h) (Or.inl ⟨by rfl, ?_⟩) ?_ ?_
              rotate_left; ·intro w'; go_simp; with_reducible rfl
              rotate_left; ·simp only [Act.put, sA_, sZ_, sS_, i64_w, i32_w]; rfl
              refine take_ (i := 31) (N := some 54) (v := ?_) (a' := ?_) #[true, true, true, true, true, true, true, true, true, true, true, true, true, true, true, true, true, true, true, true, true, true, true, true, true, true, true, true, true, true, true, true, false, false, false] rfl rfl (take_ofW HT_.out HW_.out (by kernel_rfl)) (fun _ _ _ h => h) (Or.inl ⟨by rfl, ?_⟩) hHeld ?_ ?_
              rotate_left
              ·rintro w' ⟨s0, s1, s2, s3⟩; go_simp; with_reducible rfl
              rotate_left; ·simp only [Act.put, sA_, sZ_, sS_, i64_w, i32_w]; rfl
              refine one_ (i := 32) (N := some 55) #[true, true, true, true, true, true, true, true, true, true, true, true, true, true, true, true, true, true, true, true, true, true, true, true, true, true, true, true, true, true, true, true, true, false, false] rfl rfl (one_of HT_.out (by kernel_rfl)) (by decide) (fun K hK => ?_)
              refine goes_ Try.func41 (by kernel_rfl) rfl #[.slice A1 l1.length c1, .slice (some ad243) (l2.take (x7_2 : Int).toNat).length c2, .int .i64 (rd l2 x7_2)] (by rfl) rfl rfl (by (try simp only [List.map_toArray, List.map_cons, List.map_nil]); first | done | (rw [show (l2.take (x7_2 : Int).toNat).length = x7_2.toNat from (by rw [List.length_take]; have h_ : (x7_2 : Int) ≤ (l2.length : Int) := of_decide_eq_true (by first | (with_reducible assumption) | assumption); omega)] <;> rfl) | rfl | (simp only [List.length_drop, List.length_take]; rfl)) ?_
              with_reducible refine (swarfref29_ready.calls k2 _ _ l1 _ _ (l2.take (x7_2 : Int).toNat) (rd l2 x7_2) false _ ?side1 ?side2 ?side3 ?side4 A23.out).mono ?_
              (case side1 => repeat (first | exact (Kd.C_below HR1.out (by repeat (first | (with_reducible first | exact HB.out | apply bA_ | apply bN_ | apply bD_) | exact HB.out))) | (with_reducible refine Kd.C_alloc ?_ _) | (with_reducible refine Kd.C_drewN ?_ _) | (with_reducible refine Kd.C_drew ?_)))
              (case side2 => exact HC1.out)
              (case side3 => repeat (first | exact (Kd.C_below HR248.out (by repeat (first | (with_reducible first | exact HB.out | apply bA_ | apply bN_ | apply bD_) | exact HB.out))) | (with_reducible refine Kd.C_alloc ?_ _) | (with_reducible refine Kd.C_drewN ?_ _) | (with_reducible refine Kd.C_drew ?_)))
              (case side4 => exact HC248.out)
              rintro e w' ⟨rfl, ⟨nd, rfl⟩⟩
              refine ⟨_, rfl, ?_⟩
              refine hK.out _ _ ⟨((HB.out.cell (World.block_lt_of_cell? w _ hw243_0)).trans hw243_0), ((HB.out.cell (World.block_lt_of_cell? w _ hw244_0)).trans hw244_0), ((HB.out.cell (World.block_lt_of_cell? w _ hw246_0)).trans hw246_0), ((HB.out.cell (World.block_lt_of_cell? w _ hw249_0)).trans hw249_0)⟩ (fun hHeld => ?_)
              clear hK K
              refine norm_ (a' := ?_) ?_ ?_
              rotate_left
              ·show Act.put _ (some 55) _ = _
               simp only [Act.put, sA_, sZ_, sS_, i64_w, i32_w]; rfl
              refine pure_ (i := 33) (N := some 56) (v := ?_) (a' := ?_) #[true, true, true, true, true, true, true, true, true, true, true, true, true, true, true, true, true, true, true, true, true, true, true, true, true, true, true, true, true, true, true, true, true, true, false] rfl rfl (any_of HT_.out (by kernel_rfl)) (fun _ _ _ h => h) (Or.inl ⟨by rfl, ?_⟩) ?_ ?_
              rotate_left; ·intro w'; go_simp; with_reducible rfl
              rotate_left; ·simp only [Act.put, sA_, sZ_, sS_, i64_w, i32_w]; rfl
              refine pure_ (i := 34) (N := some 57) (v := ?_) (a' := ?_) #[true, true, true, true, true, true, true, true, true, true, true, true, true, true, true, true, true, true, true, true, true, true, true, true, true, true, true, true, true, true, true, true, true, true, true] rfl rfl (any_of HT_.out (by kernel_rfl)) (fun _ _ _ h => h) (Or.inl ⟨by rfl, ?_⟩) ?_ ?_
              rotate_left; ·intro w'; go_simp; with_reducible rfl
              rotate_left; ·simp only [Act.put, sA_, sZ_, sS_, i64_w, i32_w]; rfl
              refine done_ (done_of HT_.out (by kernel_rfl)) ?_
              try go_wp2
              go_ret
              exact ⟨by first | rfl | (simp [errW_none, errW_some] <;> rfl) | (simp [*, errW_none, errW_some] <;> rfl), by repeat (first | (with_reducible first | exact HB.out | apply bA_ | apply bN_ | apply bD_) | exact HB.out)⟩
           ·rw [if_neg c16] at H
            exact absurd H (by simp)
        ·rw [if_neg c10] at H
         exact absurd H (by simp)
       ·rw [if_neg c9] at H
        exact absurd H (by simp)
      ·rw [if_neg c8] at H
       have c8b0 : decide (x7_2 < a0) = false := decide_eq_false c8
       clear c8; obtain rfl := Option.some.inj H; go_wp2; go_ret
       exact ⟨by first | rfl | (simp [errW_none, errW_some] <;> rfl) | (simp [*, errW_none, errW_some] <;> rfl), by repeat (first | (with_reducible first | exact HB.out | apply bA_ | apply bN_ | apply bD_) | exact HB.out)⟩

end Go.Proofs.Ytbbkclcfmcjlgaa.P



namespace Go.Proofs.Ytbbkclcfmcjlgaa.P
open Go.RowKit Go.Proofs.YtbbkclcfmcjlgaaW.PrintWords Go.Proofs.YtbbkclcfmcjlgaaW.PrintLast Go.Proofs.YtbbkclcfmcjlgaaW.PrintMore
set_option linter.unusedVariables false
set_option linter.unusedSimpArgs false

set_option maxHeartbeats 1000000 in
set_option maxRecDepth 100000 in
theorem clo39 (x y : Int) (g : Nat) (A : Option Addr) (c : Nat) (m : List Int) (w : World) (hg : w.heap[g]? = some (.cells #[.slice A m.length c] 31 (0, 0))) (hr : Kd.C (Kd.int .i64) w A m.length m)
  (a0 : 0 ≤ x) (a1 : x < m.length) (b0 : 0 ≤ y) (b1 : y < m.length) :
  Calls Try.prog 39 #[.agg #[.int .i64 x, .int .i64 y], .pointer (some ⟨g, 0, none⟩)] w fun e w' => e = .returned (.bool (decide (rd m x > rd m y))) ∧ Below w.heap.size w w' := by
 obtain ⟨ad, e, hx⟩ := Kd.at_int hr x a0 a1
 cases e
 obtain ⟨ad2, e2, hy⟩ := Kd.at_int hr y b0 b1
 obtain rfl : ad = ad2 := by injection e2
 have HR := aK hr
 have HG := aK hg
 have HX := aK hx
 have HY := aK hy
 have HB := aK (Below.refl w.heap.size w)
 clear hr hg hx hy
 have a0' := eq_true a0
 have a1' := eq_true a1
 have b0' := eq_true b0
 have b1' := eq_true b1
 go_enter Try.func39, Try.ntmps39
 go_wp2_with (first | ((with_reducible refine gate_dst (N := 2) rfl ?_); go_must (refine box_event ?hg (N := 2) ?hd (cs := #[.int .i64 x, .int .i64 y]) (t := 47) ?hr ?_; (case hd => rfl); (case hg => rfl); (case hr => first | (go_simp; done) | (go_simp; rfl)); intro gb hg w2 hbox hb; have HB2 := aK hb; clear HB; have HB := HB2; clear HB2; have hz0 : w2.cell? ⟨gb, 0, none⟩ = some (.int .i64 x) := (blk_cell hbox 0).trans rfl; have hz1 : w2.cell? ⟨gb, 1, none⟩ = some (.int .i64 y) := (blk_cell hbox 1).trans rfl; have hc : w2.cell? ⟨g, 0, none⟩ = some (.slice (some ad) m.length c) := (HB.out.cell (World.block_lt_of_cell? w _ ((blk_cell HG.out 0).trans rfl))).trans ((blk_cell HG.out 0).trans rfl); have hx : w2.cell? (ad.add x.toNat) = some (.int .i64 (rd m x)) := (HB.out.cell (World.block_lt_of_cell? w _ HX.out)).trans HX.out; have hy : w2.cell? (ad.add y.toNat) = some (.int .i64 (rd m y)) := (HB.out.cell (World.block_lt_of_cell? w _ HY.out)).trans HY.out; clear hbox hb hg)))
 repeat (go_quiet (fail); try go_wp2)
 go_ret
 exact ⟨by first | rfl | (simp; done), by repeat (first | (with_reducible first | exact HB.out | apply bA_ | apply bN_ | apply bD_) | exact HB.out)⟩

def idx.l0 (gf : Int → Int → Option Bool) (l : List S47) : Nat → Int → Option Int
 | 0, _ => none
 | k + 1, i => if i < (l.length : Int) then (if 0 ≤ i then ((gf (rd_T47 l i).f0 (rd_T47 l i).f1).bind fun t => if t = true then some i else idx.l0 gf l k (wrap64 (i + 1))) else none) else some (-1)
set_option maxHeartbeats 4000000 in
set_option maxRecDepth 100000 in
theorem index39 (gf : Int → Int → Option Bool) (cap : Value) (k : Nat) (A : Option Addr) (c : Nat) (l : List S47) (r : Int) (w : World) (hr : Kd.C k47 w A l.length l)
  (hclo : ∀ (a b : Int) (t : Bool) (W : World), Below w.heap.size w W → gf a b = some t → Calls Try.prog 39 #[.agg #[.int .i64 a, .int .i64 b], cap] W fun e w' => e = .returned (.bool t) ∧ Below W.heap.size W w')
  (h : idx.l0 gf l k 0 = some r) :
  Calls Try.prog 52 #[.slice A l.length c, .func (.func 39) #[] #[cap]] w fun e w' => e = .returned (.int .i64 r) ∧ Below w.heap.size w w' := by
 have HCL := aK hclo
 have HR := aK hr
 clear hclo hr
 have HB := aK (Below.refl w.heap.size w)
 have H' := aK h
 clear h
 go_enter Try.func52, Try.ntmps52
 go_wp2
 go_loopg [8] k (fun kq v8 w' => ∃ (i : Int), v8 = .int .i64 i ∧ Aside0 (idx.l0 gf l kq i = some r) ∧ Aside0 (kq ≤ k) ∧ Aside0 (Below w.heap.size w w'))
 case atStart => exact ⟨0, rfl, H', ⟨Nat.le_refl _⟩, ⟨(by repeat (first | (with_reducible first | exact HB.out | apply bA_ | apply bN_ | apply bD_) | exact HB.out))⟩⟩
 case round =>
  clear H' HB
  obtain ⟨i, rfl, HA, HK1, HB⟩ := hrel
  cases gk with
  | zero => exact absurd HA.out (by simp [idx.l0])
  | succ k1 =>
   have H := HA.out
   clear HA
   simp only [idx.l0] at H
   by_cases c1 : i < (l.length : Int)
   ·rw [if_pos c1] at H
    by_cases c2 : 0 ≤ i
    ·rw [if_pos c2] at H
     obtain ⟨t, ht, H⟩ := oB_ H
     obtain ⟨ad, e, hx0, hx1⟩ := at_T47 HR.out i c2 c1
     cases e; have HT := aK ht
     have c1b := decide_eq_true c1
     have c1' := eq_true c1
     have c2' := eq_true c2
     replace hx0 := (HB.out.cell (World.block_lt_of_cell? w _ hx0)).trans hx0
     replace hx1 := (HB.out.cell (World.block_lt_of_cell? w _ hx1)).trans hx1
     clear ht c1 c2
     cases t with
     | true =>
      rw [if_pos rfl] at H; obtain rfl := Option.some.inj H
      go_wp2_with (go_at_call 39; go_must ((with_reducible refine (HCL.out _ _ true _ ?sB HT.out).mono ?_); (case sB => exact (by repeat (first | (with_reducible first | exact HB.out | apply bA_ | apply bN_ | apply bD_) | exact HB.out))); rintro e w' ⟨rfl, hb⟩; have n_ := aK (bT_ (by repeat (first | (with_reducible first | exact HB.out | apply bA_ | apply bN_ | apply bD_) | exact HB.out)) hb); clear HB hb; have HB := n_; clear n_))
      go_ret
      exact ⟨by first | rfl | (simp; done), (by repeat (first | (with_reducible first | exact HB.out | apply bA_ | apply bN_ | apply bD_) | exact HB.out))⟩
     | false =>
      rw [if_neg (by decide)] at H; have H' := aK H; clear H
      go_wp2_with (go_at_call 39; go_must ((with_reducible refine (HCL.out _ _ false _ ?sB HT.out).mono ?_); (case sB => exact (by repeat (first | (with_reducible first | exact HB.out | apply bA_ | apply bN_ | apply bD_) | exact HB.out))); rintro e w' ⟨rfl, hb⟩; have n_ := aK (bT_ (by repeat (first | (with_reducible first | exact HB.out | apply bA_ | apply bN_ | apply bD_) | exact HB.out)) hb); clear HB hb; have HB := n_; clear n_))
      go_roundg k1
      case measure => have := HK1.out; omega
      case rel => exact ⟨wrap64 (i + 1), (by first | rfl | (simp; done)), H', ⟨by have := HK1.out; omega⟩, ⟨(by repeat (first | (with_reducible first | exact HB.out | apply bA_ | apply bN_ | apply bD_) | exact HB.out))⟩⟩
    ·rw [if_neg c2] at H
     exact absurd H (by simp)
   ·rw [if_neg c1] at H
    have c1b := decide_eq_false c1
    clear c1; obtain rfl := Option.some.inj H; go_wp2; go_ret
    exact ⟨by first | rfl | (simp; done), (by repeat (first | (with_reducible first | exact HB.out | apply bA_ | apply bN_ | apply bD_) | exact HB.out))⟩
set_option maxHeartbeats 1000000 in
set_option maxRecDepth 100000 in
theorem contains39 (gf : Int → Int → Option Bool) (cap : Value) (k : Nat) (A : Option Addr) (c : Nat) (l : List S47) (r : Int) (w : World) (hr : Kd.C k47 w A l.length l)
  (hclo : ∀ (a b : Int) (t : Bool) (W : World), Below w.heap.size w W → gf a b = some t → Calls Try.prog 39 #[.agg #[.int .i64 a, .int .i64 b], cap] W fun e w' => e = .returned (.bool t) ∧ Below W.heap.size W w')
  (h : idx.l0 gf l k 0 = some r) :
  Calls Try.prog 38 #[.slice A l.length c, .func (.func 39) #[] #[cap]] w fun e w' => e = .returned (.bool (decide (r ≥ 0))) ∧ Below w.heap.size w w' := by
 have HI := aK (index39 gf cap k A c l r w hr hclo h)
 clear hclo hr h
 go_enter Try.func38, Try.ntmps38
 go_wp2_with (go_at_call 52; go_must (refine HI.out.mono ?_; rintro e w' ⟨rfl, hb⟩; have HB := aK hb; clear hb))
 go_ret
 exact ⟨by first | rfl | (simp; done), (by repeat (first | (with_reducible first | exact HB.out | apply bA_ | apply bN_ | apply bD_) | exact HB.out))⟩
end Go.Proofs.Ytbbkclcfmcjlgaa.P
