import Derived.Test.YtbbkclcfmcjlgaaT7M21
import Derived.Test.YtbbkclcfmcjlgaaT7M26
import Derived.Test.YtbbkclcfmcjlgaaT7M25
import Derived.Test.YtbbkclcfmcjlgaaT7M23


namespace Go.Proofs.Ytbbkclcfmcjlgaa.P
open Go.RowKit Go.Proofs.YtbbkclcfmcjlgaaW.PrintWords Go.Proofs.YtbbkclcfmcjlgaaW.PrintLast Go.Proofs.YtbbkclcfmcjlgaaW.PrintMore
attribute [local go_sem] max2_int min2_int max_two min_two max_three min_three max_four min_four
set_option linter.unusedVariables false
set_option linter.unusedSimpArgs false

def swarflaw29_few.f (k : Nat) (a0 : Int) (a1 : Int) (l2 : List (S47)) : Option (Bool) := if (l2.length : Int) ≤ 60 then (if a0 ≤ a1 then (some true) else ((swarfref29_Valid.f k a0 l2).bind fun t189 => (some (t189 != 0)))) else (some false)
set_option maxHeartbeats 8000000 in
set_option maxRecDepth 100000 in
theorem swarflaw29_few.calls (k : Nat) (a0 : Int) (a1 : Int) (A2 : Option Addr) (c2 : Nat) (l2 : List (S47)) (r : Bool) (w : World) (hr2 : Kd.C k47 w A2 l2.length l2) (hc2 : l2.length ≤ c2) (h : swarflaw29_few.f k a0 a1 l2 = some r) :
  Calls Try.prog 13 #[.int .i64 a0, .int .i64 a1, .slice A2 l2.length c2] w fun e w' => e = .returned (.bool r) ∧ Drawn0 w w' := by
 have HR2 := aK hr2
 have HC2 := aK hc2
 clear hr2 hc2
 have H : (if (l2.length : Int) ≤ 60 then (if a0 ≤ a1 then (some true) else ((swarfref29_Valid.f k a0 l2).bind fun t189 => (some (t189 != 0)))) else (some false)) = some r := h
 clear h
 by_cases c4 : (l2.length : Int) ≤ 60
 ·rw [if_pos c4] at H
  have c4b0 : decide ((l2.length : Int) ≤ 60) = true := decide_eq_true c4
  have c4b1 : decide (l2.length ≤ 60) = true := decide_eq_true (by omega)
  clear c4
  by_cases c5 : a0 ≤ a1
  ·rw [if_pos c5] at H
   have c5b0 : decide (a0 ≤ a1) = true := decide_eq_true c5
   clear c5; obtain rfl := Option.some.inj H
   go_enter Try.func13, Try.ntmps13
   go_wp2; go_ret
   exact ⟨by first | rfl | (simp; done) | (simp [*]; done), by repeat (first | exact Drawn0.refl _ | apply Drawn0.step)⟩
  ·rw [if_neg c5] at H
   have c5b0 : decide (a0 ≤ a1) = false := decide_eq_false c5
   clear c5; replace H := oB_ H
   obtain ⟨t189, A60, H⟩ := H
   replace H : (some (t189 != 0)) = some r := H
   have A6 := aK A60; clear A60; obtain rfl := Option.some.inj H
   go_enter Try.func13, Try.ntmps13
   go_wp2_with (first | (go_at_call 21; (with_reducible refine (swarfref29_Valid.calls k a0 _ _ l2 t189 _ ?side1 ?side2 A6.out).mono ?_); (case side1 => repeat (first | exact HR2.out | (with_reducible refine Kd.C_alloc ?_ _) | (with_reducible refine Kd.C_drewN ?_ _) | (with_reducible refine Kd.C_drew ?_))); (case side2 => exact HC2.out); rintro e w' ⟨rfl, ⟨nd, rfl⟩⟩))
   go_ret
   exact ⟨by first | rfl | (simp; done) | (simp [*]; done), by repeat (first | exact Drawn0.refl _ | apply Drawn0.step)⟩
 ·rw [if_neg c4] at H
  have c4b0 : decide ((l2.length : Int) ≤ 60) = false := decide_eq_false c4
  have c4b1 : decide (l2.length ≤ 60) = false := decide_eq_false (by omega)
  clear c4; obtain rfl := Option.some.inj H
  go_enter Try.func13, Try.ntmps13
  go_wp2; go_ret
  exact ⟨by first | rfl | (simp; done) | (simp [*]; done), by repeat (first | exact Drawn0.refl _ | apply Drawn0.step)⟩

end Go.Proofs.Ytbbkclcfmcjlgaa.P


namespace Go.Proofs.Ytbbkclcfmcjlgaa.P
open Go.RowKit Go.Proofs.YtbbkclcfmcjlgaaW.PrintWords Go.Proofs.YtbbkclcfmcjlgaaW.PrintLast Go.Proofs.YtbbkclcfmcjlgaaW.PrintMore
attribute [local go_sem] max2_int min2_int max_two min_two max_three min_three max_four min_four
set_option linter.unusedVariables false
set_option linter.unusedSimpArgs false

def swarflaw29_cp.f (l0 : List (S47)) : Option ((List (S47))) := (some (([] : List (S47)) : List (S47))).bind fun y190 => (if y190.length + l0.length < 8796093022208 then (some (y190 ++ l0)) else (none))
set_option maxHeartbeats 8000000 in
set_option maxRecDepth 100000 in
theorem swarflaw29_cp.calls (A0 : Option Addr) (c0 : Nat) (l0 : List (S47)) (r : List (S47)) (w : World) (hr0 : Kd.C k47 w A0 l0.length l0) (hc0 : l0.length ≤ c0) (h : swarflaw29_cp.f l0 = some r) :
  Calls Try.prog 15 #[.slice A0 l0.length c0] w fun e w' => ∃ v0_ : Value, e = .returned (v0_) ∧ Kd.R k47 47 w' w.heap.size (fun _ => True) v0_ r ∧ Below w.heap.size w w' := by
 have HR0 := aK hr0
 have HC0 := aK hc0
 clear hr0 hc0
 have HB := aK (Below.refl w.heap.size w)
 have H : ((some (([] : List (S47)) : List (S47))).bind fun y190 => (if y190.length + l0.length < 8796093022208 then (some (y190 ++ l0)) else (none))) = some r := h
 clear h
 obtain ⟨y190, hy190⟩ : ∃ y_ : List (S47), y_ = (([] : List (S47))) := ⟨_, rfl⟩
 replace H : (if y190.length + l0.length < 8796093022208 then (some (y190 ++ l0)) else (none)) = some r := by first | (rw [hy190]; with_reducible exact H) | (have H2_ := (Option.bind_some _ _).symm.trans H; rw [hy190]; with_reducible exact H2_) | (have H2_ := (Option.bind_some _ _).symm.trans H; with_reducible exact H2_) | with_reducible exact H | (rw [hy190]; exact H) | exact H
 have Ny190 := aK hy190
 clear hy190
 by_cases c2 : y190.length + l0.length < 8796093022208
 ·rw [if_pos c2] at H; have LMc2 := aK c2; clear c2
  obtain ⟨y193, hy193⟩ : ∃ y_ : List (S47), y_ = (y190 ++ l0) := ⟨_, rfl⟩
  replace H : (some y193) = some r := by first | (rw [hy193]; with_reducible exact H) | (have H2_ := (Option.bind_some _ _).symm.trans H; rw [hy193]; with_reducible exact H2_) | (have H2_ := (Option.bind_some _ _).symm.trans H; with_reducible exact H2_) | with_reducible exact H | (rw [hy193]; exact H) | exact H
  have Ny193 := aK hy193; clear hy193; obtain rfl := Option.some.inj H
  go_enter Try.func15, Try.ntmps15
  go_wp2_with (first | ((with_reducible refine gate_dst (N := 3) rfl ?_); refine Kd.R_lit k47 _ 47 ?hg (N := 3) ?hd (xs := ([] : List (S47))) (inner := []) (ok := fun _ => True) (okp := fun _ => True) ?hr ?hp (fun _ hk => hk) trivial (Below.refl _ _) (Nat.le_refl _) (by simp) ?_; (case hd => rfl); (case hg => rfl); (case hr => first | (go_simp; done) | (go_simp; rfl)); (case hp => exact (Reps.none _ _)); intro v191 w3 ho4 hb hg_ hnew_; clear hg_ hnew_; (first | rw [← Ny190.out] at ho4 | (simp only [Int.reduceToNat] at ho4; rw [← Ny190.out] at ho4)); have n0_ := aK (Kd.R_lower ho4 (bZ_ (by repeat (first | (with_reducible first | exact HB.out | apply bA_ | apply bN_ | apply bD_) | exact HB.out)))); have n1_ := aK (bT_ (by repeat (first | (with_reducible first | exact HB.out | apply bA_ | apply bN_ | apply bD_) | exact HB.out)) hb); clear HB; have HO192 := n0_; have HB := n1_; clear n0_ n1_; clear hb ho4) | ((with_reducible refine gate_builtin (b := .append) (xs := #[.tmp 3, .tmp 4]) rfl ?_); at_builtin; refine Kd.R_append_rows k47 (w0 := w) w.heap.size rfl (.tmp 3) (.tmp 4) 22 47 (.agg #[(.int .i64 0), (.int .i64 0)]) 16 rfl Try.underlying22 info47 rfl (by decide) (by omega) v191 y190 l0 _ _ _ (fun _ => True) (fun _ => False) rfl rfl ?aO ?aR (fun _ _ h => h) (fun _ h => h.elim) ?aF ?aB ?aS ?aL ?_; (case aR => repeat (first | exact (Kd.C_below HR0.out HB.out) | (with_reducible refine Kd.C_alloc ?_ _) | (with_reducible refine Kd.C_drewN ?_ _) | (with_reducible refine Kd.C_drew ?_))); (case aB => exact (by repeat (first | (with_reducible first | exact HB.out | apply bA_ | apply bN_ | apply bD_) | exact HB.out))); (case aF => exact (fun _ _ => trivial)); (case aO => exact (by (with_reducible repeat (first | apply Kd.R_alloc | apply Kd.R_drewN | apply Kd.R_drew)); exact HO192.out)); (case aS => exact (bZ_ (by repeat (first | (with_reducible first | exact HB.out | apply bA_ | apply bN_ | apply bD_) | exact HB.out)))); (case aL => have := LMc2.out; omega); intro v194 w5 ho hb hg hat; rw [← Ny193.out] at ho; have n0_ := aK (hb); have n1_ := aK (ho); clear HB; clear HO192; have HB := n0_; have HO195 := n1_; clear n0_ n1_; clear ho hb hg hat))
  go_ret
  exact ⟨_, by first | rfl | (simp [errW_none, errW_some] <;> rfl) | (simp [*, errW_none, errW_some] <;> rfl), by (with_reducible repeat (first | apply Kd.R_alloc | apply Kd.R_drewN | apply Kd.R_drew)); exact HO195.out, by repeat (first | (with_reducible first | exact HB.out | apply bA_ | apply bN_ | apply bD_) | exact HB.out)⟩
 ·rw [if_neg c2] at H
  exact absurd H (by simp)

end Go.Proofs.Ytbbkclcfmcjlgaa.P



namespace Go.Proofs.Ytbbkclcfmcjlgaa.P
open Go.RowKit Go.Proofs.YtbbkclcfmcjlgaaW.PrintWords Go.Proofs.YtbbkclcfmcjlgaaW.PrintLast Go.Proofs.YtbbkclcfmcjlgaaW.PrintMore
attribute [local go_sem] max2_int min2_int max_two min_two max_three min_three max_four min_four
set_option linter.unusedVariables false
set_option linter.unusedSimpArgs false

mutual
def swarflaw29_PrecedenceReduced.j0 : Nat → Int → List (S47) → Int → Bool → Option (Bool)
 | 0, _, _, _, _ => none
 | k + 1, x0, x1, x2, x23 => if x23 = true then ((swarflaw29_awake.f k).bind fun t198 => (some t198)) else ((swarflaw29_cp.f x1).bind fun t199 => ((precedence_Reduce.f k x0 t199).bind fun bt202 => ((swarflaw29_cp.f x1).bind fun t206 => ((precedence_Closure.f k x0 t206).bind fun bt209 => (if bt202.2 = 0 then (swarflaw29_PrecedenceReduced.j1 k x0 x2 bt202.1 bt202.2 bt209.1 bt209.2 (bt209.2 != 0)) else (swarflaw29_PrecedenceReduced.j1 k x0 x2 bt202.1 bt202.2 bt209.1 bt209.2 true))))))
def swarflaw29_PrecedenceReduced.j1 : Nat → Int → Int → List (S47) → Int → List (S47) → Int → Bool → Option (Bool)
 | 0, _, _, _, _, _, _, _ => none
 | k + 1, x0, x2, x7, x8, x9, x10, x44 => if x44 = true then (some (x8 == x10)) else ((swarflaw29_cp.f x7).bind fun t213 => ((precedence_Closure.f k x0 t213).bind fun bt216 => (if bt216.2 = 0 then ((swarfref29_Pairs.f k bt216.1 x9).bind fun t220 => (swarflaw29_PrecedenceReduced.j2 k x0 x2 x7 x9 (!t220))) else (swarflaw29_PrecedenceReduced.j2 k x0 x2 x7 x9 true))))
def swarflaw29_PrecedenceReduced.j2 : Nat → Int → Int → List (S47) → List (S47) → Bool → Option (Bool)
 | 0, _, _, _, _, _ => none
 | k + 1, x0, x2, x7, x9, x62 => if x62 = true then (some false) else (if (x7.length : Int) = 0 then (some ((x9.length : Int) == 0)) else (if 0 ≤ (Int.tmod (wrap64 (x2)) (x7.length : Int)) then (if (Int.tmod (wrap64 (x2)) (x7.length : Int)) ≤ (x7.length : Int) then ((swarflaw29_cp.f (x7.take ((Int.tmod (wrap64 (x2)) (x7.length : Int)) : Int).toNat)).bind fun t225 => (if 0 ≤ (wrap64 ((Int.tmod (wrap64 (x2)) (x7.length : Int)) + 1)) then (if (wrap64 ((Int.tmod (wrap64 (x2)) (x7.length : Int)) + 1)) ≤ (x7.length : Int) then ((some (x7.drop ((wrap64 ((Int.tmod (wrap64 (x2)) (x7.length : Int)) + 1)) : Int).toNat : List (S47))).bind fun y228 => (if t225.length + y228.length < 8796093022208 then ((precedence_Closure.f k x0 (t225 ++ y228)).bind fun bt235 => (if bt235.2 = 0 then (some (decide ((bt235.1.length : Int) < (x9.length : Int)))) else (some false))) else (none))) else (none)) else (none))) else (none)) else (none)))
end
def swarflaw29_PrecedenceReduced.f (k : Nat) (a0 : Int) (l1 : List (S47)) (a2 : Int) : Option (Bool) := (swarflaw29_awake.f k).bind fun t196 => (if t196 = true then ((swarflaw29_few.f k a0 12 l1).bind fun t197 => (swarflaw29_PrecedenceReduced.j0 k a0 l1 a2 (!t197))) else (swarflaw29_PrecedenceReduced.j0 k a0 l1 a2 true))
def swarflaw29_PrecedenceReduced.T13 : Bool × List (List Nat × List Nat) := (true, [([], []), ([], []), ([], []), ([1, 2], [1, 2]), ([3], [3]), ([], []), ([], []), ([6], [6]), ([5, 7], [5, 7]), ([4, 8, 4], [4, 8]), ([0, 9, 9], [0, 9]), ([10], [10]), ([11], [11]), ([11], [11]), ([12, 10, 0, 1, 2, 3, 4, 5, 6, 7, 8, 9, 10, 11, 12], [12]), ([13, 14, 0, 1, 2, 3, 4, 5, 6, 7, 8, 9, 10, 11, 12, 13, 14], [13])])
def swarflaw29_PrecedenceReduced.B13 : List Nat := [0, 0, 0, 6, 14, 0, 0, 64, 224, 510, 1023, 2047, 4095, 4095, 8191, 32767]
theorem swarflaw29_PrecedenceReduced.tab13 : rtab .any (opsOf Try.f3 13) = swarflaw29_PrecedenceReduced.T13 := by kernel_rfl
theorem swarflaw29_PrecedenceReduced.bits13 : waitsOk swarflaw29_PrecedenceReduced.T13.2 swarflaw29_PrecedenceReduced.B13 = true := by kernel_rfl
set_option maxHeartbeats 8000000 in
set_option maxRecDepth 100000 in
theorem swarflaw29_PrecedenceReduced.calls (k : Nat) (a0 : Int) (A1 : Option Addr) (c1 : Nat) (l1 : List (S47)) (a2 : Int) (r : Bool) (w : World) (hr1 : Kd.C k47 w A1 l1.length l1) (hc1 : l1.length ≤ c1) (h : swarflaw29_PrecedenceReduced.f k a0 l1 a2 = some r) (hr : r = true) :
  Calls Try.prog 3 #[.int .i64 a0, .slice A1 l1.length c1, .int .u8 a2] w fun e w' => e = .returned (.bool r) ∧ Below w.heap.size w w' := by
 have HRT := aK hr
 clear hr
 have HR1 := aK hr1
 have HC1 := aK hc1
 clear hr1 hc1
 have HB := aK (Below.refl w.heap.size w)
 have H : ((swarflaw29_awake.f k).bind fun t196 => (if t196 = true then ((swarflaw29_few.f k a0 12 l1).bind fun t197 => (swarflaw29_PrecedenceReduced.j0 k a0 l1 a2 (!t197))) else (swarflaw29_PrecedenceReduced.j0 k a0 l1 a2 true))) = some r := h
 clear h
 have HC4 := aK H
 clear H
 go_enter Try.func3, Try.ntmps3
 go_upto_region 1 with (fail)
 go_cut [23] (fun v23 wc => ∃ (kq : Nat) (x23_3 : Bool), v23 = .bool x23_3 ∧ Aside0 (swarflaw29_PrecedenceReduced.j0 kq a0 l1 a2 x23_3 = some r) ∧ Aside0 (kq ≤ k) ∧ Aside0 (Below w.heap.size w wc))
 case first =>
  have H := HC4.out
  clear HC4; replace H := oB_ H
  obtain ⟨t196, A50, H⟩ := H
  replace H : (if t196 = true then ((swarflaw29_few.f k a0 12 l1).bind fun t197 => (swarflaw29_PrecedenceReduced.j0 k a0 l1 a2 (!t197))) else (swarflaw29_PrecedenceReduced.j0 k a0 l1 a2 true)) = some r := H
  have A5 := aK A50; clear A50
  by_cases c6 : t196 = true
  ·subst c6
   have H1 : ((swarflaw29_few.f k a0 12 l1).bind fun t197 => (swarflaw29_PrecedenceReduced.j0 k a0 l1 a2 (!t197))) = some r := by rw [if_pos rfl] at H; exact H
   clear H; have H := H1; clear H1; replace H := oB_ H
   obtain ⟨t197, A70, H⟩ := H
   replace H : (swarflaw29_PrecedenceReduced.j0 k a0 l1 a2 (!t197)) = some r := H
   have A7 := aK A70; clear A70; have H' := aK H; clear H
   go_wp2_with (first | ((with_reducible refine gate_callee (f := 12) rfl ?_); refine goesL_ (some 16) rfl rfl Try.func12 (by kernel_rfl) rfl #[] rfl (by (try simp only [List.map_toArray, List.map_cons, List.map_nil]); first | done | rfl | (simp only [List.length_drop, List.length_take]; rfl)) ?_; (with_reducible refine (swarflaw29_awake.calls k  true _ A5.out).mono ?_); rintro e w8 ⟨rfl, hb⟩; refine ⟨_, rfl, ?_⟩; have n0_ := aK (bT_ (by repeat (first | (with_reducible first | exact HB.out | apply bA_ | apply bN_ | apply bD_) | exact HB.out)) hb); clear HB; have HB := n0_; clear n0_; (try clear hb); (try clear hb2); (try clear hk); (try clear hi)) | (go_at_call 13; (with_reducible refine (swarflaw29_few.calls k a0 12 _ _ l1 t197 _ ?side1 ?side2 A7.out).mono ?_); (case side1 => repeat (first | exact (Kd.C_below HR1.out HB.out) | (with_reducible refine Kd.C_alloc ?_ _) | (with_reducible refine Kd.C_drewN ?_ _) | (with_reducible refine Kd.C_drew ?_))); (case side2 => exact HC1.out); rintro e w' ⟨rfl, ⟨nd, rfl⟩⟩))
   go_meet
   case rel => exact ⟨_, (!t197), (by first | rfl | (simp; done) | (simp [*]; done)), H', ⟨by first | omega | exact Nat.le_refl _⟩, ⟨by repeat (first | (with_reducible first | exact HB.out | apply bA_ | apply bN_ | apply bD_) | exact HB.out)⟩⟩
  ·replace c6 := Bool.eq_false_iff.mpr c6
   subst c6
   have H1 : (swarflaw29_PrecedenceReduced.j0 k a0 l1 a2 true) = some r := by rw [if_neg (show ¬ (false = true) by decide)] at H; exact H
   clear H; have H := H1; clear H1; have H' := aK H; clear H
   go_wp2_with (first | ((with_reducible refine gate_callee (f := 12) rfl ?_); refine goesL_ (some 16) rfl rfl Try.func12 (by kernel_rfl) rfl #[] rfl (by (try simp only [List.map_toArray, List.map_cons, List.map_nil]); first | done | rfl | (simp only [List.length_drop, List.length_take]; rfl)) ?_; (with_reducible refine (swarflaw29_awake.calls k  false _ A5.out).mono ?_); rintro e w9 ⟨rfl, hb⟩; refine ⟨_, rfl, ?_⟩; have n0_ := aK (bT_ (by repeat (first | (with_reducible first | exact HB.out | apply bA_ | apply bN_ | apply bD_) | exact HB.out)) hb); clear HB; have HB := n0_; clear n0_; (try clear hb); (try clear hb2); (try clear hk); (try clear hi)))
   go_meet
   case rel => exact ⟨_, (true), (by first | rfl | (simp; done) | (simp [*]; done)), H', ⟨by first | omega | exact Nat.le_refl _⟩, ⟨by repeat (first | (with_reducible first | exact HB.out | apply bA_ | apply bN_ | apply bD_) | exact HB.out)⟩⟩
 case rest =>
  clear HC4; try clear c1; try clear p2; try clear c3; try clear c6
  obtain ⟨kq, x23_3, rfl, HA, HJ3, HB⟩ := hcut
  cases kq with
  | zero => exact absurd HA.out (by simp [swarflaw29_PrecedenceReduced.j0])
  | succ kj3 =>
   have H := HA.out
   clear HA
   simp only [swarflaw29_PrecedenceReduced.j0] at H
   by_cases c10 : x23_3 = true
   ·subst c10
    have H1 : ((swarflaw29_awake.f kj3).bind fun t198 => (some t198)) = some r := by rw [if_pos rfl] at H; exact H
    clear H; have H := H1; clear H1; replace H := oB_ H
    obtain ⟨t198, A110, H⟩ := H
    replace H : (some t198) = some r := H
    have A11 := aK A110; clear A110; obtain rfl := Option.some.inj H
    go_wp2_with (first | ((with_reducible refine gate_callee (f := 12) rfl ?_); refine goesL_ (some 24) rfl rfl Try.func12 (by kernel_rfl) rfl #[] rfl (by (try simp only [List.map_toArray, List.map_cons, List.map_nil]); first | done | rfl | (simp only [List.length_drop, List.length_take]; rfl)) ?_; (with_reducible refine (swarflaw29_awake.calls kj3  t198 _ A11.out).mono ?_); rintro e w12 ⟨rfl, hb⟩; refine ⟨_, rfl, ?_⟩; have n0_ := aK (bT_ (by repeat (first | (with_reducible first | exact HB.out | apply bA_ | apply bN_ | apply bD_) | exact HB.out)) hb); clear HB; have HB := n0_; clear n0_; (try clear hb); (try clear hb2); (try clear hk); (try clear hi)))
    go_ret
    exact ⟨by first | rfl | (simp [errW_none, errW_some] <;> rfl) | (simp [*, errW_none, errW_some] <;> rfl), by repeat (first | (with_reducible first | exact HB.out | apply bA_ | apply bN_ | apply bD_) | exact HB.out)⟩
   ·replace c10 := Bool.eq_false_iff.mpr c10
    subst c10
    have H1 : ((swarflaw29_cp.f l1).bind fun t199 => ((precedence_Reduce.f kj3 a0 t199).bind fun bt202 => ((swarflaw29_cp.f l1).bind fun t206 => ((precedence_Closure.f kj3 a0 t206).bind fun bt209 => (if bt202.2 = 0 then (swarflaw29_PrecedenceReduced.j1 kj3 a0 a2 bt202.1 bt202.2 bt209.1 bt209.2 (bt209.2 != 0)) else (swarflaw29_PrecedenceReduced.j1 kj3 a0 a2 bt202.1 bt202.2 bt209.1 bt209.2 true)))))) = some r := by rw [if_neg (show ¬ (false = true) by decide)] at H; exact H
    clear H; have H := H1; clear H1; replace H := oB_ H
    obtain ⟨t199, A130, H⟩ := H
    replace H : ((precedence_Reduce.f kj3 a0 t199).bind fun bt202 => ((swarflaw29_cp.f l1).bind fun t206 => ((precedence_Closure.f kj3 a0 t206).bind fun bt209 => (if bt202.2 = 0 then (swarflaw29_PrecedenceReduced.j1 kj3 a0 a2 bt202.1 bt202.2 bt209.1 bt209.2 (bt209.2 != 0)) else (swarflaw29_PrecedenceReduced.j1 kj3 a0 a2 bt202.1 bt202.2 bt209.1 bt209.2 true))))) = some r := H
    have A13 := aK A130; clear A130; replace H := oB_ H
    obtain ⟨⟨t202, t203⟩, A140, H⟩ := H
    replace H : ((swarflaw29_cp.f l1).bind fun t206 => ((precedence_Closure.f kj3 a0 t206).bind fun bt209 => (if t203 = 0 then (swarflaw29_PrecedenceReduced.j1 kj3 a0 a2 t202 t203 bt209.1 bt209.2 (bt209.2 != 0)) else (swarflaw29_PrecedenceReduced.j1 kj3 a0 a2 t202 t203 bt209.1 bt209.2 true)))) = some r := H
    have A14 := aK A140; clear A140; replace H := oB_ H
    obtain ⟨t206, A150, H⟩ := H
    replace H : ((precedence_Closure.f kj3 a0 t206).bind fun bt209 => (if t203 = 0 then (swarflaw29_PrecedenceReduced.j1 kj3 a0 a2 t202 t203 bt209.1 bt209.2 (bt209.2 != 0)) else (swarflaw29_PrecedenceReduced.j1 kj3 a0 a2 t202 t203 bt209.1 bt209.2 true))) = some r := H
    have A15 := aK A150; clear A150; replace H := oB_ H
    obtain ⟨⟨t209, t210⟩, A160, H⟩ := H
    replace H : (if t203 = 0 then (swarflaw29_PrecedenceReduced.j1 kj3 a0 a2 t202 t203 t209 t210 (t210 != 0)) else (swarflaw29_PrecedenceReduced.j1 kj3 a0 a2 t202 t203 t209 t210 true)) = some r := H
    have A16 := aK A160; clear A160; have HC17 := aK H; clear H
    go_upto_region 5 with (first | ((with_reducible refine gate_callee (f := 15) rfl ?_); refine goesL_ (some 28) rfl rfl Try.func15 (by kernel_rfl) rfl #[.slice A1 l1.length c1] rfl (by (try simp only [List.map_toArray, List.map_cons, List.map_nil]); first | done | rfl | (simp only [List.length_drop, List.length_take]; rfl)) ?_; (with_reducible refine (swarflaw29_cp.calls _ _ l1 t199 _ ?side1 ?side2 A13.out).mono ?_); (case side1 => repeat (first | exact (Kd.C_below HR1.out HB.out) | (with_reducible refine Kd.C_alloc ?_ _) | (with_reducible refine Kd.C_drewN ?_ _) | (with_reducible refine Kd.C_drew ?_))); (case side2 => exact HC1.out); rintro e w18 ⟨v200, rfl, ho0, hb⟩; refine ⟨_, rfl, ?_⟩; have n0_ := aK (Kd.R_lower ho0 (bZ_ (by repeat (first | (with_reducible first | exact HB.out | apply bA_ | apply bN_ | apply bD_) | exact HB.out)))); have n1_ := aK (bT_ (by repeat (first | (with_reducible first | exact HB.out | apply bA_ | apply bN_ | apply bD_) | exact HB.out)) hb); clear HB; have HO201 := n0_; have HB := n1_; clear n0_ n1_; (try clear hb); (try clear hb2); (try clear hk); (try clear hi); (try clear ho0); obtain ⟨Ao19, co19, eo19⟩ := Kd.R_slice HO201.out; subst eo19) | ((with_reducible refine gate_callee (f := 14) rfl ?_); refine goesL_ (some 29) rfl rfl Try.func14 (by kernel_rfl) rfl #[.int .i64 a0, .slice Ao19 t199.length co19] rfl (by (try simp only [List.map_toArray, List.map_cons, List.map_nil]); first | done | rfl | (simp only [List.length_drop, List.length_take]; rfl)) ?_; (with_reducible refine (precedence_Reduce.calls kj3 a0 _ _ t199 t202 t203 _ ?side1 ?side2 A14.out).mono ?_); (case side1 => repeat (first | exact (Kd.R_reads' HO201.out).2.2 | (with_reducible refine Kd.C_alloc ?_ _) | (with_reducible refine Kd.C_drewN ?_ _) | (with_reducible refine Kd.C_drew ?_))); (case side2 => exact (Kd.R_reads' HO201.out).2.1); rintro e w20 ⟨v204, rfl, ho0, hb⟩; refine ⟨_, rfl, ?_⟩; have n0_ := aK (Kd.R_elder' (by (with_reducible repeat (first | apply Kd.R_alloc | apply Kd.R_drewN | apply Kd.R_drew)); exact HO201.out) (Kd.R_base ho0) hb); have n1_ := aK (Kd.R_lower (Kd.R_new' ho0 (Kd.R_lt (by (with_reducible repeat (first | apply Kd.R_alloc | apply Kd.R_drewN | apply Kd.R_drew)); exact HO201.out))) (bZ_ (by repeat (first | (with_reducible first | exact HB.out | apply bA_ | apply bN_ | apply bD_) | exact HB.out)))); have n2_ := aK (bT_ (by repeat (first | (with_reducible first | exact HB.out | apply bA_ | apply bN_ | apply bD_) | exact HB.out)) hb); clear HO201; clear HB; have HO201 := n0_; have HO205 := n1_; have HB := n2_; clear n0_ n1_ n2_; (try clear hb); (try clear hb2); (try clear hk); (try clear hi); (try clear ho0)) | ((with_reducible refine gate_callee (f := 15) rfl ?_); refine goesL_ (some 35) rfl rfl Try.func15 (by kernel_rfl) rfl #[.slice A1 l1.length c1] rfl (by (try simp only [List.map_toArray, List.map_cons, List.map_nil]); first | done | rfl | (simp only [List.length_drop, List.length_take]; rfl)) ?_; (with_reducible refine (swarflaw29_cp.calls _ _ l1 t206 _ ?side1 ?side2 A15.out).mono ?_); (case side1 => repeat (first | exact (Kd.C_below HR1.out HB.out) | (with_reducible refine Kd.C_alloc ?_ _) | (with_reducible refine Kd.C_drewN ?_ _) | (with_reducible refine Kd.C_drew ?_))); (case side2 => exact HC1.out); rintro e w21 ⟨v207, rfl, ho0, hb⟩; refine ⟨_, rfl, ?_⟩; have n0_ := aK (Kd.R_elder' (by (with_reducible repeat (first | apply Kd.R_alloc | apply Kd.R_drewN | apply Kd.R_drew)); exact HO201.out) (Kd.R_base ho0) hb); have n1_ := aK (Kd.R_elder' (by (with_reducible repeat (first | apply Kd.R_alloc | apply Kd.R_drewN | apply Kd.R_drew)); exact HO205.out) (Kd.R_base ho0) hb); have n2_ := aK (Kd.R_lower (Kd.R_new' (Kd.R_new' ho0 (Kd.R_lt (by (with_reducible repeat (first | apply Kd.R_alloc | apply Kd.R_drewN | apply Kd.R_drew)); exact HO201.out))) (Kd.R_lt (by (with_reducible repeat (first | apply Kd.R_alloc | apply Kd.R_drewN | apply Kd.R_drew)); exact HO205.out))) (bZ_ (by repeat (first | (with_reducible first | exact HB.out | apply bA_ | apply bN_ | apply bD_) | exact HB.out)))); have n3_ := aK (bT_ (by repeat (first | (with_reducible first | exact HB.out | apply bA_ | apply bN_ | apply bD_) | exact HB.out)) hb); clear HO201; clear HO205; clear HB; have HO201 := n0_; have HO205 := n1_; have HO208 := n2_; have HB := n3_; clear n0_ n1_ n2_ n3_; (try clear hb); (try clear hb2); (try clear hk); (try clear hi); (try clear ho0); obtain ⟨Ao22, co22, eo22⟩ := Kd.R_slice HO208.out; subst eo22) | ((with_reducible refine gate_callee (f := 16) rfl ?_); refine goesL_ (some 36) rfl rfl Try.func16 (by kernel_rfl) rfl #[.int .i64 a0, .slice Ao22 t206.length co22] rfl (by (try simp only [List.map_toArray, List.map_cons, List.map_nil]); first | done | rfl | (simp only [List.length_drop, List.length_take]; rfl)) ?_; (with_reducible refine (precedence_Closure.calls kj3 a0 _ _ t206 t209 t210 _ ?side1 ?side2 A16.out).mono ?_); (case side1 => repeat (first | exact (Kd.R_reads' HO208.out).2.2 | (with_reducible refine Kd.C_alloc ?_ _) | (with_reducible refine Kd.C_drewN ?_ _) | (with_reducible refine Kd.C_drew ?_))); (case side2 => exact (Kd.R_reads' HO208.out).2.1); rintro e w23 ⟨v211, rfl, ho0, hb⟩; refine ⟨_, rfl, ?_⟩; have n0_ := aK (Kd.R_elder' (by (with_reducible repeat (first | apply Kd.R_alloc | apply Kd.R_drewN | apply Kd.R_drew)); exact HO201.out) (Kd.R_base ho0) hb); have n1_ := aK (Kd.R_elder' (by (with_reducible repeat (first | apply Kd.R_alloc | apply Kd.R_drewN | apply Kd.R_drew)); exact HO205.out) (Kd.R_base ho0) hb); have n2_ := aK (Kd.R_elder' (by (with_reducible repeat (first | apply Kd.R_alloc | apply Kd.R_drewN | apply Kd.R_drew)); exact HO208.out) (Kd.R_base ho0) hb); have n3_ := aK (Kd.R_lower (Kd.R_new' (Kd.R_new' (Kd.R_new' ho0 (Kd.R_lt (by (with_reducible repeat (first | apply Kd.R_alloc | apply Kd.R_drewN | apply Kd.R_drew)); exact HO201.out))) (Kd.R_lt (by (with_reducible repeat (first | apply Kd.R_alloc | apply Kd.R_drewN | apply Kd.R_drew)); exact HO205.out))) (Kd.R_lt (by (with_reducible repeat (first | apply Kd.R_alloc | apply Kd.R_drewN | apply Kd.R_drew)); exact HO208.out))) (bZ_ (by repeat (first | (with_reducible first | exact HB.out | apply bA_ | apply bN_ | apply bD_) | exact HB.out)))); have n4_ := aK (bT_ (by repeat (first | (with_reducible first | exact HB.out | apply bA_ | apply bN_ | apply bD_) | exact HB.out)) hb); clear HO201; clear HO205; clear HO208; clear HB; have HO201 := n0_; have HO205 := n1_; have HO208 := n2_; have HO212 := n3_; have HB := n4_; clear n0_ n1_ n2_ n3_ n4_; (try clear hb); (try clear hb2); (try clear hk); (try clear hi); (try clear ho0)))
    (try simp only [Act.put, sA_, sZ_, sS_])
    go_cut [44] (fun v44 wc => ∃ (kq : Nat) (x44_16 : Bool), v44 = .bool x44_16 ∧ Aside0 (swarflaw29_PrecedenceReduced.j1 kq a0 a2 t202 t203 t209 t210 x44_16 = some r) ∧ Aside0 (kq ≤ kj3) ∧ Aside0 (Kd.R k47 47 wc w.heap.size (fun k_ => some k_ ≠ (v211 : Value).ownBlock) v204 t202) ∧ Aside0 (Kd.R k47 47 wc w.heap.size (fun k_ => some k_ ≠ (v204 : Value).ownBlock) v211 t209) ∧ Aside0 (Below w.heap.size w wc))
    case first =>
     have H := HC17.out
     clear HC17
     by_cases c24 : t203 = 0
     ·rw [if_pos c24] at H
      have c24b0 : (t203 == 0) = true := beq_iff_eq.mpr c24
      have c24b1 : (t203 != 0) = false := bne_eq_false_iff_eq.mpr c24
      clear c24
      (first | rw [c24b0] | (simp only [i64_w, i32_w]; rw [c24b0]) | skip)
      have H' := aK H; clear H; go_wp2
      go_meet
      case rel => exact ⟨_, ((t210 != 0)), (by first | rfl | (simp; done) | (simp [*]; done)), H', ⟨by have := HJ3.out; first | omega | exact Nat.le_refl _⟩, ⟨by (with_reducible repeat (first | apply Kd.R_alloc | apply Kd.R_drewN | apply Kd.R_drew)); exact Kd.R_mono HO205.out (fun _ hk => hk.2)⟩, ⟨by (with_reducible repeat (first | apply Kd.R_alloc | apply Kd.R_drewN | apply Kd.R_drew)); exact Kd.R_mono HO212.out (fun _ hk => hk.1.2)⟩, ⟨by repeat (first | (with_reducible first | exact HB.out | apply bA_ | apply bN_ | apply bD_) | exact HB.out)⟩⟩
     ·rw [if_neg c24] at H
      have c24b0 : (t203 == 0) = false := beq_eq_false_iff_ne.mpr c24
      have c24b1 : (t203 != 0) = true := bne_iff_ne.mpr c24
      (first | rw [c24b0] | (simp only [i64_w, i32_w]; rw [c24b0]) | skip)
      have H' := aK H; clear H; go_wp2
      go_meet
      case rel => exact ⟨_, (true), (by first | rfl | (simp; done) | (simp [*]; done)), H', ⟨by have := HJ3.out; first | omega | exact Nat.le_refl _⟩, ⟨by (with_reducible repeat (first | apply Kd.R_alloc | apply Kd.R_drewN | apply Kd.R_drew)); exact Kd.R_mono HO205.out (fun _ hk => hk.2)⟩, ⟨by (with_reducible repeat (first | apply Kd.R_alloc | apply Kd.R_drewN | apply Kd.R_drew)); exact Kd.R_mono HO212.out (fun _ hk => hk.1.2)⟩, ⟨by repeat (first | (with_reducible first | exact HB.out | apply bA_ | apply bN_ | apply bD_) | exact HB.out)⟩⟩
    case rest =>
     clear HC17; try clear c1; try clear c2; try clear p2; try clear c3; try clear c6; try clear c10; try clear c12; try clear c14; try clear c15; try clear c16; try clear c24; try clear c24b0; try clear c24b1; try clear p2
     obtain ⟨kq, x44_16, rfl, HA, HJ16, HO_7, HO_9, HB⟩ := hcut
     cases kq with
     | zero => exact absurd HA.out (by simp [swarflaw29_PrecedenceReduced.j1])
     | succ kj16 =>
      have H := HA.out
      clear HA
      simp only [swarflaw29_PrecedenceReduced.j1] at H
      by_cases c25 : x44_16 = true
      ·subst c25
       have H1 : (some (t203 == t210)) = some r := by rw [if_pos rfl] at H; exact H
       clear H; have H := H1; clear H1; obtain rfl := Option.some.inj H; go_wp2; go_ret
       exact ⟨by first | rfl | (simp [errW_none, errW_some] <;> rfl) | (simp [*, errW_none, errW_some] <;> rfl), by repeat (first | (with_reducible first | exact HB.out | apply bA_ | apply bN_ | apply bD_) | exact HB.out)⟩
      ·replace c25 := Bool.eq_false_iff.mpr c25
       subst c25
       have H1 : ((swarflaw29_cp.f t202).bind fun t213 => ((precedence_Closure.f kj16 a0 t213).bind fun bt216 => (if bt216.2 = 0 then ((swarfref29_Pairs.f kj16 bt216.1 t209).bind fun t220 => (swarflaw29_PrecedenceReduced.j2 kj16 a0 a2 t202 t209 (!t220))) else (swarflaw29_PrecedenceReduced.j2 kj16 a0 a2 t202 t209 true)))) = some r := by rw [if_neg (show ¬ (false = true) by decide)] at H; exact H
       clear H; have H := H1; clear H1; replace H := oB_ H
       obtain ⟨t213, A260, H⟩ := H
       replace H : ((precedence_Closure.f kj16 a0 t213).bind fun bt216 => (if bt216.2 = 0 then ((swarfref29_Pairs.f kj16 bt216.1 t209).bind fun t220 => (swarflaw29_PrecedenceReduced.j2 kj16 a0 a2 t202 t209 (!t220))) else (swarflaw29_PrecedenceReduced.j2 kj16 a0 a2 t202 t209 true))) = some r := H
       have A26 := aK A260; clear A260; replace H := oB_ H
       obtain ⟨⟨t216, t217⟩, A270, H⟩ := H
       replace H : (if t217 = 0 then ((swarfref29_Pairs.f kj16 t216 t209).bind fun t220 => (swarflaw29_PrecedenceReduced.j2 kj16 a0 a2 t202 t209 (!t220))) else (swarflaw29_PrecedenceReduced.j2 kj16 a0 a2 t202 t209 true)) = some r := H
       have A27 := aK A270; clear A270; have HC28 := aK H; clear H
       obtain ⟨Ao29, co29, eo29⟩ := Kd.R_slice HO_7.out
       subst eo29
       go_upto_region 8 with (first | ((with_reducible refine gate_callee (f := 15) rfl ?_); refine goesL_ (some 51) rfl rfl Try.func15 (by kernel_rfl) rfl #[.slice Ao29 t202.length co29] rfl (by (try simp only [List.map_toArray, List.map_cons, List.map_nil]); first | done | rfl | (simp only [List.length_drop, List.length_take]; rfl)) ?_; (with_reducible refine (swarflaw29_cp.calls _ _ t202 t213 _ ?side1 ?side2 A26.out).mono ?_); (case side1 => repeat (first | exact (Kd.R_reads' HO_7.out).2.2 | (with_reducible refine Kd.C_alloc ?_ _) | (with_reducible refine Kd.C_drewN ?_ _) | (with_reducible refine Kd.C_drew ?_))); (case side2 => exact (Kd.R_reads' HO_7.out).2.1); rintro e w30 ⟨v214, rfl, ho0, hb⟩; refine ⟨_, rfl, ?_⟩; have n0_ := aK (Kd.R_elder' (by (with_reducible repeat (first | apply Kd.R_alloc | apply Kd.R_drewN | apply Kd.R_drew)); exact HO_7.out) (Kd.R_base ho0) hb); have n1_ := aK (Kd.R_elder' (by (with_reducible repeat (first | apply Kd.R_alloc | apply Kd.R_drewN | apply Kd.R_drew)); exact HO_9.out) (Kd.R_base ho0) hb); have n2_ := aK (Kd.R_lower (Kd.R_new' (Kd.R_new' ho0 (Kd.R_lt (by (with_reducible repeat (first | apply Kd.R_alloc | apply Kd.R_drewN | apply Kd.R_drew)); exact HO_7.out))) (Kd.R_lt (by (with_reducible repeat (first | apply Kd.R_alloc | apply Kd.R_drewN | apply Kd.R_drew)); exact HO_9.out))) (bZ_ (by repeat (first | (with_reducible first | exact HB.out | apply bA_ | apply bN_ | apply bD_) | exact HB.out)))); have n3_ := aK (bT_ (by repeat (first | (with_reducible first | exact HB.out | apply bA_ | apply bN_ | apply bD_) | exact HB.out)) hb); clear HO_7; clear HO_9; clear HB; have HO_7 := n0_; have HO_9 := n1_; have HO215 := n2_; have HB := n3_; clear n0_ n1_ n2_ n3_; (try clear hb); (try clear hb2); (try clear hk); (try clear hi); (try clear ho0); obtain ⟨Ao31, co31, eo31⟩ := Kd.R_slice HO215.out; subst eo31) | ((with_reducible refine gate_callee (f := 16) rfl ?_); refine goesL_ (some 52) rfl rfl Try.func16 (by kernel_rfl) rfl #[.int .i64 a0, .slice Ao31 t213.length co31] rfl (by (try simp only [List.map_toArray, List.map_cons, List.map_nil]); first | done | rfl | (simp only [List.length_drop, List.length_take]; rfl)) ?_; (with_reducible refine (precedence_Closure.calls kj16 a0 _ _ t213 t216 t217 _ ?side1 ?side2 A27.out).mono ?_); (case side1 => repeat (first | exact (Kd.R_reads' HO215.out).2.2 | (with_reducible refine Kd.C_alloc ?_ _) | (with_reducible refine Kd.C_drewN ?_ _) | (with_reducible refine Kd.C_drew ?_))); (case side2 => exact (Kd.R_reads' HO215.out).2.1); rintro e w32 ⟨v218, rfl, ho0, hb⟩; refine ⟨_, rfl, ?_⟩; have n0_ := aK (Kd.R_elder' (by (with_reducible repeat (first | apply Kd.R_alloc | apply Kd.R_drewN | apply Kd.R_drew)); exact HO_7.out) (Kd.R_base ho0) hb); have n1_ := aK (Kd.R_elder' (by (with_reducible repeat (first | apply Kd.R_alloc | apply Kd.R_drewN | apply Kd.R_drew)); exact HO_9.out) (Kd.R_base ho0) hb); have n2_ := aK (Kd.R_elder' (by (with_reducible repeat (first | apply Kd.R_alloc | apply Kd.R_drewN | apply Kd.R_drew)); exact HO215.out) (Kd.R_base ho0) hb); have n3_ := aK (Kd.R_lower (Kd.R_new' (Kd.R_new' (Kd.R_new' ho0 (Kd.R_lt (by (with_reducible repeat (first | apply Kd.R_alloc | apply Kd.R_drewN | apply Kd.R_drew)); exact HO_7.out))) (Kd.R_lt (by (with_reducible repeat (first | apply Kd.R_alloc | apply Kd.R_drewN | apply Kd.R_drew)); exact HO_9.out))) (Kd.R_lt (by (with_reducible repeat (first | apply Kd.R_alloc | apply Kd.R_drewN | apply Kd.R_drew)); exact HO215.out))) (bZ_ (by repeat (first | (with_reducible first | exact HB.out | apply bA_ | apply bN_ | apply bD_) | exact HB.out)))); have n4_ := aK (bT_ (by repeat (first | (with_reducible first | exact HB.out | apply bA_ | apply bN_ | apply bD_) | exact HB.out)) hb); clear HO_7; clear HO_9; clear HO215; clear HB; have HO_7 := n0_; have HO_9 := n1_; have HO215 := n2_; have HO219 := n3_; have HB := n4_; clear n0_ n1_ n2_ n3_ n4_; (try clear hb); (try clear hb2); (try clear hk); (try clear hi); (try clear ho0)))
       (try simp only [Act.put, sA_, sZ_, sS_])
       go_cut [62] (fun v62 wc => ∃ (kq : Nat) (x62_27 : Bool), v62 = .bool x62_27 ∧ Aside0 (swarflaw29_PrecedenceReduced.j2 kq a0 a2 t202 t209 x62_27 = some r) ∧ Aside0 (kq ≤ kj16) ∧ Aside0 (Kd.R k47 47 wc w.heap.size (fun k_ => some k_ ≠ (v211 : Value).ownBlock) (.slice Ao29 t202.length co29) t202) ∧ Aside0 (Kd.R k47 47 wc w.heap.size (fun k_ => some k_ ≠ ((.slice Ao29 t202.length co29) : Value).ownBlock) v211 t209) ∧ Aside0 (Below w.heap.size w wc))
       case first =>
        have H := HC28.out
        clear HC28
        by_cases c33 : t217 = 0
        ·rw [if_pos c33] at H
         have c33b0 : (t217 == 0) = true := beq_iff_eq.mpr c33
         have c33b1 : (t217 != 0) = false := bne_eq_false_iff_eq.mpr c33
         clear c33
         (first | rw [c33b0] | (simp only [i64_w, i32_w]; rw [c33b0]) | skip)
         replace H := oB_ H
         obtain ⟨t220, A340, H⟩ := H
         replace H : (swarflaw29_PrecedenceReduced.j2 kj16 a0 a2 t202 t209 (!t220)) = some r := H
         have A34 := aK A340; clear A340; have H' := aK H; clear H
         obtain ⟨Ao35, co35, eo35⟩ := Kd.R_slice HO219.out
         subst eo35
         obtain ⟨Ao36, co36, eo36⟩ := Kd.R_slice HO_9.out
         subst eo36
         go_wp2_with (first | (go_at_call 17; (with_reducible refine (swarfref29_Pairs.calls kj16 _ _ t216 _ _ t209 t220 _ ?side1 ?side2 ?side3 ?side4 A34.out).mono ?_); (case side1 => repeat (first | exact (Kd.R_reads' HO219.out).2.2 | (with_reducible refine Kd.C_alloc ?_ _) | (with_reducible refine Kd.C_drewN ?_ _) | (with_reducible refine Kd.C_drew ?_))); (case side2 => exact (Kd.R_reads' HO219.out).2.1); (case side3 => repeat (first | exact (Kd.R_reads' HO_9.out).2.2 | (with_reducible refine Kd.C_alloc ?_ _) | (with_reducible refine Kd.C_drewN ?_ _) | (with_reducible refine Kd.C_drew ?_))); (case side4 => exact (Kd.R_reads' HO_9.out).2.1); rintro e w' ⟨rfl, ⟨nd, rfl⟩⟩))
         go_meet
         case rel => exact ⟨_, (!t220), (by first | rfl | (simp; done) | (simp [*]; done)), H', ⟨by have := HJ3.out; have := HJ16.out; first | omega | exact Nat.le_refl _⟩, ⟨by (with_reducible repeat (first | apply Kd.R_alloc | apply Kd.R_drewN | apply Kd.R_drew)); exact Kd.R_mono HO_7.out (fun _ hk => hk.1.1)⟩, ⟨by (with_reducible repeat (first | apply Kd.R_alloc | apply Kd.R_drewN | apply Kd.R_drew)); exact Kd.R_mono HO_9.out (fun _ hk => hk.1.1)⟩, ⟨by repeat (first | (with_reducible first | exact HB.out | apply bA_ | apply bN_ | apply bD_) | exact HB.out)⟩⟩
        ·rw [if_neg c33] at H
         have c33b0 : (t217 == 0) = false := beq_eq_false_iff_ne.mpr c33
         have c33b1 : (t217 != 0) = true := bne_iff_ne.mpr c33
         (first | rw [c33b0] | (simp only [i64_w, i32_w]; rw [c33b0]) | skip)
         have H' := aK H; clear H; go_wp2
         go_meet
         case rel => exact ⟨_, (true), (by first | rfl | (simp; done) | (simp [*]; done)), H', ⟨by have := HJ3.out; have := HJ16.out; first | omega | exact Nat.le_refl _⟩, ⟨by (with_reducible repeat (first | apply Kd.R_alloc | apply Kd.R_drewN | apply Kd.R_drew)); exact Kd.R_mono HO_7.out (fun _ hk => hk.1.1)⟩, ⟨by (with_reducible repeat (first | apply Kd.R_alloc | apply Kd.R_drewN | apply Kd.R_drew)); exact Kd.R_mono HO_9.out (fun _ hk => hk.1.1)⟩, ⟨by repeat (first | (with_reducible first | exact HB.out | apply bA_ | apply bN_ | apply bD_) | exact HB.out)⟩⟩
       case rest =>
        clear HC28; try clear c1; try clear c2; try clear p2; try clear c3; try clear c6; try clear c10; try clear c12; try clear c14; try clear c15; try clear c16; try clear c24; try clear c24b0; try clear c24b1; try clear c25; try clear c33; try clear c33b0; try clear c33b1; try clear p2
        obtain ⟨kq, x62_27, rfl, HA, HJ27, HO_7, HO_9, HB⟩ := hcut
        cases kq with
        | zero => exact absurd HA.out (by simp [swarflaw29_PrecedenceReduced.j2])
        | succ kj27 =>
         have H := HA.out
         clear HA
         simp only [swarflaw29_PrecedenceReduced.j2] at H
         by_cases c37 : x62_27 = true
         ·subst c37
          have H1 : (some false) = some r := by rw [if_pos rfl] at H; exact H
          clear H; have H := H1; clear H1
          (rw [HRT.out] at H; exact absurd H (by decide))
         ·replace c37 := Bool.eq_false_iff.mpr c37
          subst c37
          have H1 : (if (t202.length : Int) = 0 then (some ((t209.length : Int) == 0)) else (if 0 ≤ (Int.tmod (wrap64 (a2)) (t202.length : Int)) then (if (Int.tmod (wrap64 (a2)) (t202.length : Int)) ≤ (t202.length : Int) then ((swarflaw29_cp.f (t202.take ((Int.tmod (wrap64 (a2)) (t202.length : Int)) : Int).toNat)).bind fun t225 => (if 0 ≤ (wrap64 ((Int.tmod (wrap64 (a2)) (t202.length : Int)) + 1)) then (if (wrap64 ((Int.tmod (wrap64 (a2)) (t202.length : Int)) + 1)) ≤ (t202.length : Int) then ((some (t202.drop ((wrap64 ((Int.tmod (wrap64 (a2)) (t202.length : Int)) + 1)) : Int).toNat : List (S47))).bind fun y228 => (if t225.length + y228.length < 8796093022208 then ((precedence_Closure.f kj27 a0 (t225 ++ y228)).bind fun bt235 => (if bt235.2 = 0 then (some (decide ((bt235.1.length : Int) < (t209.length : Int)))) else (some false))) else (none))) else (none)) else (none))) else (none)) else (none))) = some r := by rw [if_neg (show ¬ (false = true) by decide)] at H; exact H
          clear H; have H := H1; clear H1
          by_cases c38 : (t202.length : Int) = 0
          ·rw [if_pos c38] at H
           have c38b0 : ((t202.length : Int) == 0) = true := beq_iff_eq.mpr c38
           have c38b1 : ((t202.length : Int) != 0) = false := bne_eq_false_iff_eq.mpr c38
           clear c38; obtain rfl := Option.some.inj H
           obtain ⟨Ao39, co39, eo39⟩ := Kd.R_slice HO_9.out
           subst eo39; go_wp2; go_ret
           exact ⟨by first | rfl | (simp [errW_none, errW_some] <;> rfl) | (simp [*, errW_none, errW_some] <;> rfl), by repeat (first | (with_reducible first | exact HB.out | apply bA_ | apply bN_ | apply bD_) | exact HB.out)⟩
          ·rw [if_neg c38] at H
           have c38b0 : ((t202.length : Int) == 0) = false := beq_eq_false_iff_ne.mpr c38
           have c38b1 : ((t202.length : Int) != 0) = true := bne_iff_ne.mpr c38
           have c38b2 : ¬ (t202 = []) := fun h_ => c38 (by rw [h_]; rfl)
           obtain ⟨ji40, hji40⟩ : ∃ j_ : Int, (Int.tmod (wrap64 (a2)) (t202.length : Int)) = j_ := ⟨_, rfl⟩
           replace H : (if 0 ≤ (ji40) then (if (ji40) ≤ (t202.length : Int) then ((swarflaw29_cp.f (t202.take ((ji40) : Int).toNat)).bind fun t225 => (if 0 ≤ (wrap64 ((ji40) + 1)) then (if (wrap64 ((ji40) + 1)) ≤ (t202.length : Int) then ((some (t202.drop ((wrap64 ((ji40) + 1)) : Int).toNat : List (S47))).bind fun y228 => (if t225.length + y228.length < 8796093022208 then ((precedence_Closure.f kj27 a0 (t225 ++ y228)).bind fun bt235 => (if bt235.2 = 0 then (some (decide ((bt235.1.length : Int) < (t209.length : Int)))) else (some false))) else (none))) else (none)) else (none))) else (none)) else (none)) = some r := by first | (rw [hji40] at H; exact H) | (simp only [hji40] at H ⊢; exact H)
           by_cases c41 : 0 ≤ (ji40)
           ·rw [if_pos c41] at H
            have c41b0 := eq_true c41
            have c41b1 : decide (0 ≤ (ji40)) = true := decide_eq_true c41
            clear c41
            by_cases c42 : (ji40) ≤ (t202.length : Int)
            ·rw [if_pos c42] at H
             have c42b0 := eq_true c42
             have c42b1 : decide ((ji40) ≤ (t202.length : Int)) = true := decide_eq_true c42
             clear c42
             obtain ⟨y221, hy221⟩ : ∃ y_ : List (S47), y_ = (t202.take ((ji40) : Int).toNat) := ⟨_, rfl⟩
             replace H : ((swarflaw29_cp.f y221).bind fun t225 => (if 0 ≤ (wrap64 ((ji40) + 1)) then (if (wrap64 ((ji40) + 1)) ≤ (t202.length : Int) then ((some (t202.drop ((wrap64 ((ji40) + 1)) : Int).toNat : List (S47))).bind fun y228 => (if t225.length + y228.length < 8796093022208 then ((precedence_Closure.f kj27 a0 (t225 ++ y228)).bind fun bt235 => (if bt235.2 = 0 then (some (decide ((bt235.1.length : Int) < (t209.length : Int)))) else (some false))) else (none))) else (none)) else (none))) = some r := by first | (rw [hy221]; with_reducible exact H) | (have H2_ := (Option.bind_some _ _).symm.trans H; rw [hy221]; with_reducible exact H2_) | (have H2_ := (Option.bind_some _ _).symm.trans H; with_reducible exact H2_) | with_reducible exact H | (rw [hy221]; exact H) | exact H
             have Ny221 := aK hy221; clear hy221; replace H := oB_ H
             obtain ⟨t225, A430, H⟩ := H
             replace H : (if 0 ≤ (wrap64 ((ji40) + 1)) then (if (wrap64 ((ji40) + 1)) ≤ (t202.length : Int) then ((some (t202.drop ((wrap64 ((ji40) + 1)) : Int).toNat : List (S47))).bind fun y228 => (if t225.length + y228.length < 8796093022208 then ((precedence_Closure.f kj27 a0 (t225 ++ y228)).bind fun bt235 => (if bt235.2 = 0 then (some (decide ((bt235.1.length : Int) < (t209.length : Int)))) else (some false))) else (none))) else (none)) else (none)) = some r := H
             have A43 := aK A430; clear A430
             obtain ⟨ji44, hji44⟩ : ∃ j_ : Int, (wrap64 ((ji40) + 1)) = j_ := ⟨_, rfl⟩
             replace H : (if 0 ≤ (ji44) then (if (ji44) ≤ (t202.length : Int) then ((some (t202.drop ((ji44) : Int).toNat : List (S47))).bind fun y228 => (if t225.length + y228.length < 8796093022208 then ((precedence_Closure.f kj27 a0 (t225 ++ y228)).bind fun bt235 => (if bt235.2 = 0 then (some (decide ((bt235.1.length : Int) < (t209.length : Int)))) else (some false))) else (none))) else (none)) else (none)) = some r := by first | (rw [hji44] at H; exact H) | (simp only [hji44] at H ⊢; exact H)
             (try rw [hji44] at A43)
             have hji44w : (IntKind.i64.wrap ((ji40) + 1)) = ji44 := (i64_w _).trans hji44
             by_cases c45 : 0 ≤ (ji44)
             ·rw [if_pos c45] at H
              have c45b0 := eq_true c45
              have c45b1 : decide (0 ≤ (ji44)) = true := decide_eq_true c45
              clear c45
              by_cases c46 : (ji44) ≤ (t202.length : Int)
              ·rw [if_pos c46] at H
               have c46b0 := eq_true c46
               have c46b1 : decide ((ji44) ≤ (t202.length : Int)) = true := decide_eq_true c46
               clear c46
               obtain ⟨y228, hy228⟩ : ∃ y_ : List (S47), y_ = (t202.drop ((ji44) : Int).toNat) := ⟨_, rfl⟩
               replace H : (if t225.length + y228.length < 8796093022208 then ((precedence_Closure.f kj27 a0 (t225 ++ y228)).bind fun bt235 => (if bt235.2 = 0 then (some (decide ((bt235.1.length : Int) < (t209.length : Int)))) else (some false))) else (none)) = some r := by first | (rw [hy228]; with_reducible exact H) | (have H2_ := (Option.bind_some _ _).symm.trans H; rw [hy228]; with_reducible exact H2_) | (have H2_ := (Option.bind_some _ _).symm.trans H; with_reducible exact H2_) | with_reducible exact H | (rw [hy228]; exact H) | exact H
               have Ny228 := aK hy228; clear hy228
               by_cases c47 : t225.length + y228.length < 8796093022208
               ·rw [if_pos c47] at H; have LMc47 := aK c47; clear c47
                obtain ⟨y232, hy232⟩ : ∃ y_ : List (S47), y_ = (t225 ++ y228) := ⟨_, rfl⟩
                replace H : ((precedence_Closure.f kj27 a0 y232).bind fun bt235 => (if bt235.2 = 0 then (some (decide ((bt235.1.length : Int) < (t209.length : Int)))) else (some false))) = some r := by first | (rw [hy232]; with_reducible exact H) | (have H2_ := (Option.bind_some _ _).symm.trans H; rw [hy232]; with_reducible exact H2_) | (have H2_ := (Option.bind_some _ _).symm.trans H; with_reducible exact H2_) | with_reducible exact H | (rw [hy232]; exact H) | exact H
                have Ny232 := aK hy232; clear hy232; replace H := oB_ H
                obtain ⟨⟨t235, t236⟩, A480, H⟩ := H
                replace H : (if t236 = 0 then (some (decide ((t235.length : Int) < (t209.length : Int)))) else (some false)) = some r := H
                have A48 := aK A480; clear A480
                by_cases c49 : t236 = 0
                ·rw [if_pos c49] at H
                 have c49b0 : (t236 == 0) = true := beq_iff_eq.mpr c49
                 have c49b1 : (t236 != 0) = false := bne_eq_false_iff_eq.mpr c49
                 clear c49; obtain rfl := Option.some.inj H
                 try go_wp2
                 have n0_ := aK (Kd.R_drew HO_7.out)
                 have n1_ := aK (Kd.R_drew HO_9.out)
                 have n2_ := aK (bD_ HB.out)
                 clear HO_7; clear HO_9; clear HB; have HO_7 := n0_; have HO_9 := n1_; have HB := n2_; clear n0_ n1_ n2_
                 have q51 : ((ji40) : Int) ≤ ((t202.length : Int) : Int) := of_decide_eq_true (by first | (with_reducible assumption) | assumption)
                 obtain ⟨i051, hi051, _, hsz51, _⟩ := info_parts info47
                 have hroom51 : t202.length ≤ co29 := (Kd.R_reads' HO_7.out).2.1
                 have hC51 : Kd.C k47 _ Ao29 t202.length t202 := (Kd.R_reads' HO_7.out).2.2
                 have hcut51 := cut_to (P := Try.prog) 22 47 .i64 Try.underlying22 hi051 Ao29 t202.length co29 (ji40) (of_decide_eq_true (by first | (with_reducible assumption) | assumption)) q51 hroom51
                 have hr51 := Kd.C_take (m := ((ji40) : Int).toNat) hC51 (by omega)
                 have hy51 : y221.length = ((ji40) : Int).toNat := (by rw [Ny221.out, List.length_take]; omega)
                 rw [← Ny221.out] at hr51; rw [← hy51] at hcut51; have HR224 := aK hr51
                 have HC224 := aK (show y221.length ≤ co29 from by omega)
                 clear hr51 hC51 hroom51 hi051 hsz51; have KY51 := aK hy51; clear hy51
                 have KL51 := aK (show ((ji40) : Int).toNat ≤ t202.length from by omega)
                 replace q51 := eq_true q51
                 have q52 : ((ji44) : Int) ≤ ((t202.length : Int) : Int) := of_decide_eq_true (by first | (with_reducible assumption) | assumption)
                 obtain ⟨i052, hi052, _, hsz52, _⟩ := info_parts info47
                 have hroom52 : t202.length ≤ co29 := (Kd.R_reads' HO_7.out).2.1
                 have hC52 : Kd.C k47 _ Ao29 t202.length t202 := (Kd.R_reads' HO_7.out).2.2
                 have q052 : (0 : Int) ≤ ((ji44) : Int) := of_decide_eq_true (by first | (with_reducible assumption) | assumption)
                 have hcut52 := cut_from (P := Try.prog) 22 47 .i64 Try.underlying22 hi052 2 hsz52 Ao29 t202.length co29 (ji44) q052 q52
                 have hr52 := Kd.C_drop (m := ((ji44) : Int).toNat) (c := co29) hC52 (by omega) hroom52
                 obtain ⟨A52, hA52⟩ : ∃ A1, A1 = (if co29 = ((ji44) : Int).toNat then Ao29 else (Ao29 : Option Addr).map (·.add (((ji44) : Int).toNat * 2))) := ⟨_, rfl⟩
                 obtain ⟨c52, hc52⟩ : ∃ c1, c1 = co29 - ((ji44) : Int).toNat := ⟨_, rfl⟩
                 have hy52 : y228.length = t202.length - ((ji44) : Int).toNat := (by rw [Ny228.out, List.length_drop] <;> omega)
                 rw [show (t202).drop ((ji44) : Int).toNat = y228 from Ny228.out.symm] at hr52
                 replace hr52 : Kd.C k47 _ A52 y228.length y228 := (by rw [hA52]; exact hr52)
                 rw [← hy52, ← hA52, ← hc52] at hcut52; have HR231 := aK hr52
                 have HC231 := aK (show y228.length ≤ c52 from by rw [hy52, hc52]; exact Nat.sub_le_sub_right hroom52 _)
                 clear hr52 hC52 hroom52 hi052 hsz52 hc52; have KY52 := aK hy52; have KA52 := aK hA52; clear hy52 hA52
                 have KL52 := aK (show ((ji44) : Int).toNat ≤ t202.length from by omega)
                 replace q52 := eq_true q52
                 refine start_ (n := 16) (S := fun w' => True) (ds := []) #[false, false, false, false, false, false, false, false, false, false, false, false, false, false, false, false] (by kernel_rfl) rfl rfl trivial (fun hHeld => ?_); refine with_tabW swarflaw29_PrecedenceReduced.tab13 swarflaw29_PrecedenceReduced.bits13 (fun HT_ HW_ => ?_)
                 generalize wc.drew = w50 at HO_7 HO_9 HB HR224 HR231 hHeld ⊢
                 refine pure_ (i := 0) (N := some 75) (v := ?_) (a' := ?_) #[true, false, false, false, false, false, false, false, false, false, false, false, false, false, false, false] rfl rfl (any_of HT_.out (by kernel_rfl)) (fun _ _ _ h => h) (Or.inl ⟨by rfl, ?_⟩) ?_ ?_
                 rotate_left; ·intro w'; go_simp; with_reducible rfl
                 rotate_left; ·simp only [Act.put, sA_, sZ_, sS_, i64_w, i32_w]; rfl
                 refine pure_ (i := 1) (N := some 76) (v := ?_) (a' := ?_) #[true, true, false, false, false, false, false, false, false, false, false, false, false, false, false, false] rfl rfl (any_of HT_.out (by kernel_rfl)) (fun _ _ _ h => h) (Or.inl ⟨by rfl, ?_⟩) ?_ ?_
                 rotate_left; ·intro w'; go_simp; with_reducible rfl
                 rotate_left; ·simp only [Act.put, sA_, sZ_, sS_, i64_w, i32_w]; rfl
                 refine pure_ (i := 2) (N := some 77) (v := ?_) (a' := ?_) #[true, true, true, false, false, false, false, false, false, false, false, false, false, false, false, false] rfl rfl (any_of HT_.out (by kernel_rfl)) (fun _ _ _ h => h) (Or.inl ⟨by rfl, ?_⟩) ?_ ?_
                 rotate_left; ·intro w'; go_simp; with_reducible rfl
                 rotate_left; ·simp only [Act.put, sA_, sZ_, sS_, i64_w, i32_w]; rfl
                 refine pure_ (i := 3) (N := some 78) (v := ?_) (a' := ?_) #[true, true, true, true, false, false, false, false, false, false, false, false, false, false, false, false] rfl rfl (any_of HT_.out (by kernel_rfl)) (fun _ _ _ h => h) (Or.inl ⟨by rfl, ?_⟩) ?_ ?_
                 rotate_left; ·intro w'; go_simp; with_reducible rfl
                 rotate_left; ·simp only [Act.put, sA_, sZ_, sS_, i64_w, i32_w]; rfl
                 refine pure_ (i := 5) (N := some 80) (v := ?_) (a' := ?_) #[true, true, true, true, false, true, false, false, false, false, false, false, false, false, false, false] rfl rfl (any_of HT_.out (by kernel_rfl)) (fun _ _ _ h => h) (Or.inl ⟨by rfl, ?_⟩) ?_ ?_
                 rotate_left; ·intro w'; go_simp; with_reducible rfl
                 rotate_left; ·simp only [Act.put, sA_, sZ_, sS_, i64_w, i32_w]; rfl
                 refine pure_ (i := 6) (N := some 81) (v := ?_) (a' := ?_) #[true, true, true, true, false, true, true, false, false, false, false, false, false, false, false, false] rfl rfl (any_of HT_.out (by kernel_rfl)) (fun _ _ _ h => h) (Or.inl ⟨by rfl, ?_⟩) ?_ ?_
                 rotate_left; ·intro w'; go_simp; with_reducible rfl
                 rotate_left; ·simp only [Act.put, sA_, sZ_, sS_, i64_w, i32_w]; rfl
                 refine pure_ (i := 7) (N := some 82) (v := ?_) (a' := ?_) #[true, true, true, true, false, true, true, true, false, false, false, false, false, false, false, false] rfl rfl (any_of HT_.out (by kernel_rfl)) (fun _ _ _ h => h) (Or.inl ⟨by rfl, ?_⟩) ?_ ?_
                 rotate_left; ·intro w'; go_simp; with_reducible rfl
                 rotate_left; ·simp only [Act.put, sA_, sZ_, sS_, i64_w, i32_w]; rfl
                 refine pure_ (i := 8) (N := some 83) (v := ?_) (a' := ?_) #[true, true, true, true, false, true, true, true, true, false, false, false, false, false, false, false] rfl rfl (any_of HT_.out (by kernel_rfl)) (fun _ _ _ h => h) (Or.inl ⟨by rfl, ?_⟩) ?_ ?_
                 rotate_left; ·intro w'; go_simp; with_reducible rfl
                 rotate_left; ·simp only [Act.put, sA_, sZ_, sS_, i64_w, i32_w]; rfl
                 refine one_ (i := 4) (N := some 79) #[true, true, true, true, true, true, true, true, true, false, false, false, false, false, false, false] rfl rfl (one_of HT_.out (by kernel_rfl)) (by decide) (fun K hK => ?_)
                 refine goes_ Try.func15 (by kernel_rfl) rfl #[.slice Ao29 y221.length co29] (by rfl) rfl rfl (by (try simp only [List.map_toArray, List.map_cons, List.map_nil]); first | done | rfl | (simp only [List.length_drop, List.length_take]; rfl)) ?_
                 with_reducible refine (swarflaw29_cp.calls _ _ y221 t225 _ ?side1 ?side2 A43.out).mono ?_
                 (case side1 => repeat (first | exact (by repeat (first | (with_reducible exact HR224.out) | (with_reducible refine Kd.C_alloc ?_ _) | (with_reducible refine Kd.C_drewN ?_ _) | (with_reducible refine Kd.C_drew ?_) | exact HR224.out)) | (with_reducible refine Kd.C_alloc ?_ _) | (with_reducible refine Kd.C_drewN ?_ _) | (with_reducible refine Kd.C_drew ?_)))
                 (case side2 => exact HC224.out)
                 rintro e w53 ⟨v226, rfl, ho0, hb⟩
                 refine ⟨_, rfl, ?_⟩
                 have n0_ := aK (Kd.R_elder' (by (with_reducible repeat (first | apply Kd.R_alloc | apply Kd.R_drewN | apply Kd.R_drew)); exact HO_7.out) (Kd.R_base ho0) hb)
                 have n1_ := aK (Kd.R_elder' (by (with_reducible repeat (first | apply Kd.R_alloc | apply Kd.R_drewN | apply Kd.R_drew)); exact HO_9.out) (Kd.R_base ho0) hb)
                 have n2_ := aK (Kd.R_lower (Kd.R_new' (Kd.R_new' ho0 (Kd.R_lt (by (with_reducible repeat (first | apply Kd.R_alloc | apply Kd.R_drewN | apply Kd.R_drew)); exact HO_7.out))) (Kd.R_lt (by (with_reducible repeat (first | apply Kd.R_alloc | apply Kd.R_drewN | apply Kd.R_drew)); exact HO_9.out))) (bZ_ (by repeat (first | (with_reducible first | exact HB.out | apply bA_ | apply bN_ | apply bD_) | exact HB.out))))
                 have n3_ := aK (Kd.C_below (by repeat (first | (with_reducible exact HR224.out) | (with_reducible refine Kd.C_alloc ?_ _) | (with_reducible refine Kd.C_drewN ?_ _) | (with_reducible refine Kd.C_drew ?_) | exact HR224.out)) hb)
                 have n4_ := aK (Kd.C_below (by repeat (first | (with_reducible exact HR231.out) | (with_reducible refine Kd.C_alloc ?_ _) | (with_reducible refine Kd.C_drewN ?_ _) | (with_reducible refine Kd.C_drew ?_) | exact HR231.out)) hb)
                 have n5_ := aK (bT_ (by repeat (first | (with_reducible first | exact HB.out | apply bA_ | apply bN_ | apply bD_) | exact HB.out)) hb)
                 clear HO_7; clear HO_9; clear HR224; clear HR231; clear HB; have HO_7 := n0_; have HO_9 := n1_; have HO227 := n2_; have HR224 := n3_; have HR231 := n4_; have HB := n5_; clear n0_ n1_ n2_ n3_ n4_ n5_; (try clear hb); (try clear hb2); (try clear hk); (try clear hi); (try clear ho0)
                 refine hK.out _ _ trivial (fun hHeld => ?_)
                 clear hK K
                 refine norm_ (a' := ?_) ?_ ?_
                 rotate_left
                 ·show Act.put _ (some 79) _ = _
                  simp only [Act.put, sA_, sZ_, sS_, i64_w, i32_w]; rfl
                 refine one_ (i := 9) (N := some 84) #[true, true, true, true, true, true, true, true, true, true, false, false, false, false, false, false] rfl rfl (one_of HT_.out (by kernel_rfl)) (by decide) (fun K hK => ?_)
                 refine Kd.R_append_rows_step k47 (w0 := w) w.heap.size (by rfl) (.tmp 79) (.tmp 83) 22 47 (.agg #[(.int .i64 0), (.int .i64 0)]) 16 rfl Try.underlying22 info47 rfl (by decide) (by omega) v226 t225 y228 _ _ _ (fun k_ => some k_ ≠ (.slice Ao29 t202.length co29 : Value).ownBlock ∧ some k_ ≠ (v211 : Value).ownBlock) (fun _ => False) rfl rfl ?aO ?aR (fun _ _ h => h) (fun _ h => h.elim) ?aF ?aB ?aS ?aL ?_
                 (case aR => repeat (first | exact (by repeat (first | (with_reducible exact HR231.out) | (with_reducible refine Kd.C_alloc ?_ _) | (with_reducible refine Kd.C_drewN ?_ _) | (with_reducible refine Kd.C_drew ?_) | exact HR231.out)) | (with_reducible refine Kd.C_alloc ?_ _) | (with_reducible refine Kd.C_drewN ?_ _) | (with_reducible refine Kd.C_drew ?_)))
                 (case aB => exact (by repeat (first | (with_reducible first | exact HB.out | apply bA_ | apply bN_ | apply bD_) | exact HB.out)))
                 (case aF => exact (fun k_ hk => ⟨Kd.fresh' (Kd.R_lt (by (with_reducible repeat (first | apply Kd.R_alloc | apply Kd.R_drewN | apply Kd.R_drew)); exact HO_7.out)) k_ hk, Kd.fresh' (Kd.R_lt (by (with_reducible repeat (first | apply Kd.R_alloc | apply Kd.R_drewN | apply Kd.R_drew)); exact HO_9.out)) k_ hk⟩))
                 (case aO => exact (by (with_reducible repeat (first | apply Kd.R_alloc | apply Kd.R_drewN | apply Kd.R_drew)); exact Kd.R_mono HO227.out (fun _ hk => ⟨hk.1.2, hk.2⟩)))
                 (case aS => exact (bZ_ (by repeat (first | (with_reducible first | exact HB.out | apply bA_ | apply bN_ | apply bD_) | exact HB.out))))
                 (case aL => have := LMc47.out; omega)
                 intro v233 w54 ho hb hg hat; rw [← Ny232.out] at ho
                 have n0_ := aK (Kd.R_after (ok := (fun k_ => some k_ ≠ (v211 : Value).ownBlock)) (by (with_reducible repeat (first | apply Kd.R_alloc | apply Kd.R_drewN | apply Kd.R_drew)); exact HO_7.out) hg hat)
                 have n1_ := aK (Kd.R_after (ok := (fun k_ => some k_ ≠ (.slice Ao29 t202.length co29 : Value).ownBlock)) (by (with_reducible repeat (first | apply Kd.R_alloc | apply Kd.R_drewN | apply Kd.R_drew)); exact HO_9.out) hg hat)
                 have n2_ := aK (hb)
                 have n3_ := aK ((show Kd.C k47 w54 Ao29 y221.length y221 from by rw [Ny221.out]; exact Kd.C_take (m := ((ji40) : Int).toNat) ((Kd.R_reads' (Kd.R_after (ok := (fun k_ => some k_ ≠ (v211 : Value).ownBlock)) (by (with_reducible repeat (first | apply Kd.R_alloc | apply Kd.R_drewN | apply Kd.R_drew)); exact HO_7.out) hg hat)).2.2) KL51.out))
                 have n4_ := aK ((show Kd.C k47 w54 A52 y228.length y228 from by rw [Ny228.out, KA52.out]; exact Kd.C_drop (m := ((ji44) : Int).toNat) (c := co29) ((Kd.R_reads' (Kd.R_after (ok := (fun k_ => some k_ ≠ (v211 : Value).ownBlock)) (by (with_reducible repeat (first | apply Kd.R_alloc | apply Kd.R_drewN | apply Kd.R_drew)); exact HO_7.out) hg hat)).2.2) KL52.out ((Kd.R_reads' (Kd.R_after (ok := (fun k_ => some k_ ≠ (v211 : Value).ownBlock)) (by (with_reducible repeat (first | apply Kd.R_alloc | apply Kd.R_drewN | apply Kd.R_drew)); exact HO_7.out) hg hat)).2.1)))
                 have n5_ := aK (ho)
                 clear HO_7; clear HO_9; clear HB; clear HR224; clear HR231; clear HO227; have HO_7 := n0_; have HO_9 := n1_; have HB := n2_; have HR224 := n3_; have HR231 := n4_; have HO234 := n5_; clear n0_ n1_ n2_ n3_ n4_ n5_; clear ho hb hg hat
                 obtain ⟨Ao55, co55, eo55⟩ := Kd.R_slice HO234.out
                 (first | subst eo55 | (injection eo55 with f1_ f2_ f3_; have f4_ := f1_.symm; have f5_ := f3_.symm; clear f1_ f2_ f3_; subst f4_; subst f5_))
                 refine hK.out _ _ trivial (fun hHeld => ?_)
                 clear hK K
                 refine norm_ (a' := ?_) ?_ ?_
                 rotate_left
                 ·show Act.put _ (some 84) _ = _
                  simp only [Act.put, sA_, sZ_, sS_, i64_w, i32_w]; rfl
                 refine one_ (i := 10) (N := some 85) #[true, true, true, true, true, true, true, true, true, true, true, false, false, false, false, false] rfl rfl (one_of HT_.out (by kernel_rfl)) (by decide) (fun K hK => ?_)
                 refine goes_ Try.func16 (by kernel_rfl) rfl #[.int .i64 a0, .slice Ao55 y232.length co55] (by rfl) rfl rfl (by (try simp only [List.map_toArray, List.map_cons, List.map_nil]); first | done | rfl | (simp only [List.length_drop, List.length_take]; rfl)) ?_
                 with_reducible refine (precedence_Closure.calls kj27 a0 _ _ y232 t235 t236 _ ?side1 ?side2 A48.out).mono ?_
                 (case side1 => repeat (first | exact (Kd.R_reads' HO234.out).2.2 | (with_reducible refine Kd.C_alloc ?_ _) | (with_reducible refine Kd.C_drewN ?_ _) | (with_reducible refine Kd.C_drew ?_)))
                 (case side2 => exact (Kd.R_reads' HO234.out).2.1)
                 rintro e w56 ⟨v237, rfl, ho0, hb⟩
                 refine ⟨_, rfl, ?_⟩
                 have n0_ := aK (Kd.R_elder' (by (with_reducible repeat (first | apply Kd.R_alloc | apply Kd.R_drewN | apply Kd.R_drew)); exact HO_7.out) (Kd.R_base ho0) hb)
                 have n1_ := aK (Kd.R_elder' (by (with_reducible repeat (first | apply Kd.R_alloc | apply Kd.R_drewN | apply Kd.R_drew)); exact HO_9.out) (Kd.R_base ho0) hb)
                 have n2_ := aK (Kd.R_elder' (by (with_reducible repeat (first | apply Kd.R_alloc | apply Kd.R_drewN | apply Kd.R_drew)); exact HO234.out) (Kd.R_base ho0) hb)
                 have n3_ := aK (Kd.R_lower (Kd.R_new' (Kd.R_new' (Kd.R_new' ho0 (Kd.R_lt (by (with_reducible repeat (first | apply Kd.R_alloc | apply Kd.R_drewN | apply Kd.R_drew)); exact HO_7.out))) (Kd.R_lt (by (with_reducible repeat (first | apply Kd.R_alloc | apply Kd.R_drewN | apply Kd.R_drew)); exact HO_9.out))) (Kd.R_lt (by (with_reducible repeat (first | apply Kd.R_alloc | apply Kd.R_drewN | apply Kd.R_drew)); exact HO234.out))) (bZ_ (by repeat (first | (with_reducible first | exact HB.out | apply bA_ | apply bN_ | apply bD_) | exact HB.out))))
                 have n4_ := aK (Kd.C_below (by repeat (first | (with_reducible exact HR224.out) | (with_reducible refine Kd.C_alloc ?_ _) | (with_reducible refine Kd.C_drewN ?_ _) | (with_reducible refine Kd.C_drew ?_) | exact HR224.out)) hb)
                 have n5_ := aK (Kd.C_below (by repeat (first | (with_reducible exact HR231.out) | (with_reducible refine Kd.C_alloc ?_ _) | (with_reducible refine Kd.C_drewN ?_ _) | (with_reducible refine Kd.C_drew ?_) | exact HR231.out)) hb)
                 have n6_ := aK (bT_ (by repeat (first | (with_reducible first | exact HB.out | apply bA_ | apply bN_ | apply bD_) | exact HB.out)) hb)
                 clear HO_7; clear HO_9; clear HO234; clear HR224; clear HR231; clear HB; have HO_7 := n0_; have HO_9 := n1_; have HO234 := n2_; have HO238 := n3_; have HR224 := n4_; have HR231 := n5_; have HB := n6_; clear n0_ n1_ n2_ n3_ n4_ n5_ n6_; (try clear hb); (try clear hb2); (try clear hk); (try clear hi); (try clear ho0)
                 refine hK.out _ _ trivial (fun hHeld => ?_)
                 clear hK K
                 refine norm_ (a' := ?_) ?_ ?_
                 rotate_left
                 ·show Act.put _ (some 85) _ = _
                  simp only [Act.put, sA_, sZ_, sS_, i64_w, i32_w]; rfl
                 refine pure_ (i := 11) (N := some 74) (v := ?_) (a' := ?_) #[true, true, true, true, true, true, true, true, true, true, true, true, false, false, false, false] rfl rfl (any_of HT_.out (by kernel_rfl)) (fun _ _ _ h => h) (Or.inl ⟨by rfl, ?_⟩) ?_ ?_
                 rotate_left; ·intro w'; go_simp; with_reducible rfl
                 rotate_left; ·simp only [Act.put, sA_, sZ_, sS_, i64_w, i32_w]; rfl
                 refine pure_ (i := 12) (N := some 86) (v := ?_) (a' := ?_) #[true, true, true, true, true, true, true, true, true, true, true, true, true, false, false, false] rfl rfl (any_of HT_.out (by kernel_rfl)) (fun _ _ _ h => h) (Or.inl ⟨by rfl, ?_⟩) ?_ ?_
                 rotate_left; ·intro w'; go_simp; with_reducible rfl
                 rotate_left; ·simp only [Act.put, sA_, sZ_, sS_, i64_w, i32_w]; rfl
                 refine pure_ (i := 13) (N := some 87) (v := ?_) (a' := ?_) #[true, true, true, true, true, true, true, true, true, true, true, true, true, true, false, false] rfl rfl (any_of HT_.out (by kernel_rfl)) (fun _ _ _ h => h) (Or.inl ⟨by rfl, ?_⟩) ?_ ?_
                 rotate_left; ·intro w'; go_simp; with_reducible rfl
                 rotate_left; ·simp only [Act.put, sA_, sZ_, sS_, i64_w, i32_w]; rfl
                 refine pure_ (i := 14) (N := some 14) (v := ?_) (a' := ?_) #[true, true, true, true, true, true, true, true, true, true, true, true, true, true, true, false] rfl rfl (any_of HT_.out (by kernel_rfl)) (fun _ _ _ h => h) (Or.inl ⟨by rfl, ?_⟩) ?_ ?_
                 rotate_left; ·intro w'; go_simp; with_reducible rfl
                 rotate_left; ·simp only [Act.put, sA_, sZ_, sS_, i64_w, i32_w]; rfl
                 refine pure_ (i := 15) (N := some 15) (v := ?_) (a' := ?_) #[true, true, true, true, true, true, true, true, true, true, true, true, true, true, true, true] rfl rfl (any_of HT_.out (by kernel_rfl)) (fun _ _ _ h => h) (Or.inl ⟨by rfl, ?_⟩) ?_ ?_
                 rotate_left; ·intro w'; go_simp; with_reducible rfl
                 rotate_left; ·simp only [Act.put, sA_, sZ_, sS_, i64_w, i32_w]; rfl
                 refine done_ (done_of HT_.out (by kernel_rfl)) ?_
                 obtain ⟨Ao57, co57, eo57⟩ := Kd.R_slice HO238.out
                 subst eo57
                 obtain ⟨Ao58, co58, eo58⟩ := Kd.R_slice HO_9.out
                 subst eo58
                 try go_wp2
                 go_ret
                 exact ⟨by first | rfl | (simp [errW_none, errW_some] <;> rfl) | (simp only [← hji40, ← hji44]; first | rfl | (simp [errW_none, errW_some] <;> rfl)) | (simp [*, errW_none, errW_some] <;> rfl), by repeat (first | (with_reducible first | exact HB.out | apply bA_ | apply bN_ | apply bD_) | exact HB.out)⟩
                ·rw [if_neg c49] at H
                 have c49b0 : (t236 == 0) = false := beq_eq_false_iff_ne.mpr c49
                 have c49b1 : (t236 != 0) = true := bne_iff_ne.mpr c49
                 (rw [HRT.out] at H; exact absurd H (by decide))
               ·rw [if_neg c47] at H
                exact absurd H (by simp)
              ·rw [if_neg c46] at H
               exact absurd H (by simp)
             ·rw [if_neg c45] at H
              exact absurd H (by simp)
            ·rw [if_neg c42] at H
             exact absurd H (by simp)
           ·rw [if_neg c41] at H
            exact absurd H (by simp)

end Go.Proofs.Ytbbkclcfmcjlgaa.P


namespace Go.Proofs.Ytbbkclcfmcjlgaa.B
open Go.RowKit Go.Proofs.Ytbbkclcfmcjlgaa.P Go.Proofs.YtbbkclcfmcjlgaaW.PrintWords Go.Proofs.YtbbkclcfmcjlgaaW.PrintLast
theorem awake_ev : Ev (fun k => swarflaw29_awake.f k) true := Ev.of swarflaw29_awake.mono swarflaw29_awake.small
end Go.Proofs.Ytbbkclcfmcjlgaa.B



namespace Go.Proofs.Ytbbkclcfmcjlgaa.P
open Go.RowKit Go.Proofs.YtbbkclcfmcjlgaaW.PrintWords Go.Proofs.YtbbkclcfmcjlgaaW.PrintLast Go.Proofs.YtbbkclcfmcjlgaaW.PrintMore
attribute [local go_sem] max2_int min2_int max_two min_two max_three min_three max_four min_four
set_option linter.unusedVariables false
set_option linter.unusedSimpArgs false

def swarfref29_ready.l0 : Nat → List (S47) → List Int → Int → Int → Option (Bool)
 | 0, _, _, _, _ => none
 | k + 1, x0, x1, x2, x7 => if x7 < (x0.length : Int) then (if 0 ≤ x7 then (if ((rd_T47 x0 x7).f1) = x2 then ((swarfref29_in.f k x1 ((rd_T47 x0 x7).f0)).bind fun t241 => (if t241 = true then (swarfref29_ready.l0 k x0 x1 x2 (wrap64 (x7 + 1))) else (some false))) else (swarfref29_ready.l0 k x0 x1 x2 (wrap64 (x7 + 1)))) else (none)) else (some true)
def swarfref29_ready.f (k : Nat) (l0 : List (S47)) (l1 : List Int) (a2 : Int) : Option (Bool) := swarfref29_ready.l0 k l0 l1 a2 0
set_option maxHeartbeats 8000000 in
set_option maxRecDepth 100000 in
theorem swarfref29_ready.calls (k : Nat) (A0 : Option Addr) (c0 : Nat) (l0 : List (S47)) (A1 : Option Addr) (c1 : Nat) (l1 : List Int) (a2 : Int) (r : Bool) (w : World) (hr0 : Kd.C k47 w A0 l0.length l0) (hc0 : l0.length ≤ c0) (hr1 : Kd.C (Kd.int .i64) w A1 l1.length l1) (hc1 : l1.length ≤ c1) (h : swarfref29_ready.f k l0 l1 a2 = some r) :
  Calls Try.prog 41 #[.slice A0 l0.length c0, .slice A1 l1.length c1, .int .i64 a2] w fun e w' => e = .returned (.bool r) ∧ Drawn0 w w' := by
 have HR0 := aK hr0
 have HC0 := aK hc0
 clear hr0 hc0
 have HR1 := aK hr1
 have HC1 := aK hc1
 clear hr1 hc1
 have H : (swarfref29_ready.l0 k l0 l1 a2 0) = some r := h
 clear h
 have H' := aK H
 clear H
 go_enter Try.func41, Try.ntmps41
 go_wp2
 go_loopg [7] k (fun kq v7 w' => ∃ (x7_1 : Int), v7 = .int .i64 x7_1 ∧ Aside0 (swarfref29_ready.l0 kq l0 l1 a2 x7_1 = some r) ∧ Aside0 (kq ≤ k) ∧ Drawn0 w w')
 case atStart => exact ⟨(0), (by first | rfl | (simp; done) | (simp [*]; done)), H', ⟨Nat.le_refl _⟩, by repeat (first | exact Drawn0.refl _ | apply Drawn0.step)⟩
 case round =>
  clear H'; try clear c1; try clear p2
  obtain ⟨x7_1, rfl, HA, HK1, ⟨m1, rfl⟩⟩ := hrel
  cases gk with
  | zero => exact absurd HA.out (by simp [swarfref29_ready.l0])
  | succ k1 =>
   have H := HA.out
   clear HA
   simp only [swarfref29_ready.l0] at H
   by_cases c4 : x7_1 < (l0.length : Int)
   ·rw [if_pos c4] at H
    have c4b0 : decide (x7_1 < (l0.length : Int)) = true := decide_eq_true c4
    clear c4
    by_cases c5 : 0 ≤ x7_1
    ·rw [if_pos c5] at H
     have c5b0 : decide (0 ≤ x7_1) = true := decide_eq_true c5
     clear c5
     by_cases c6 : ((rd_T47 l0 x7_1).f1) = a2
     ·rw [if_pos c6] at H
      have c6b0 : (((rd_T47 l0 x7_1).f1) == a2) = true := beq_iff_eq.mpr c6
      have c6b1 : (((rd_T47 l0 x7_1).f1) != a2) = false := bne_eq_false_iff_eq.mpr c6
      clear c6; replace H := oB_ H
      obtain ⟨t241, A70, H⟩ := H
      replace H : (if t241 = true then (swarfref29_ready.l0 k1 l0 l1 a2 (wrap64 (x7_1 + 1))) else (some false)) = some r := H
      have A7 := aK A70; clear A70
      by_cases c8 : t241 = true
      ·subst c8
       have H1 : (swarfref29_ready.l0 k1 l0 l1 a2 (wrap64 (x7_1 + 1))) = some r := by rw [if_pos rfl] at H; exact H
       clear H; have H := H1; clear H1; have H' := aK H; clear H
       have p239 : 0 ≤ (x7_1 : Int) := of_decide_eq_true (by first | (with_reducible assumption) | assumption)
       have q239 : x7_1 < (l0.length : Int) := of_decide_eq_true (by first | (with_reducible assumption) | assumption)
       obtain ⟨ad239, e239, hx239_0, hx239_1⟩ := at_T47 HR0.out x7_1 p239 q239
       cases e239; replace p239 := eq_true p239; replace q239 := eq_true q239
       have p240 : 0 ≤ (x7_1 : Int) := of_decide_eq_true (by first | (with_reducible assumption) | assumption)
       have q240 : x7_1 < (l0.length : Int) := of_decide_eq_true (by first | (with_reducible assumption) | assumption)
       obtain ⟨ad240, e240, hx240_0, hx240_1⟩ := at_T47 HR0.out x7_1 p240 q240
       obtain rfl : ad239 = ad240 := (by injection e240)
       replace p240 := eq_true p240; replace q240 := eq_true q240
       go_wp2_with (first | (go_at_call 40; (with_reducible refine (swarfref29_in.calls k1 _ _ l1 ((rd_T47 l0 x7_1).f0) true _ ?side1 ?side2 A7.out).mono ?_); (case side1 => repeat (first | exact HR1.out | (with_reducible refine Kd.C_alloc ?_ _) | (with_reducible refine Kd.C_drewN ?_ _) | (with_reducible refine Kd.C_drew ?_))); (case side2 => exact HC1.out); rintro e w' ⟨rfl, ⟨nd, rfl⟩⟩))
       go_roundg k1
       case measure => have := HK1.out; omega
       case rel => exact ⟨(wrap64 (x7_1 + 1)), (by first | rfl | (simp; done) | (simp [*]; done)), H', ⟨by have := HK1.out; omega⟩, by repeat (first | exact Drawn0.refl _ | apply Drawn0.step)⟩
      ·replace c8 := Bool.eq_false_iff.mpr c8
       subst c8
       have H1 : (some false) = some r := by rw [if_neg (show ¬ (false = true) by decide)] at H; exact H
       clear H; have H := H1; clear H1; obtain rfl := Option.some.inj H
       have p239 : 0 ≤ (x7_1 : Int) := of_decide_eq_true (by first | (with_reducible assumption) | assumption)
       have q239 : x7_1 < (l0.length : Int) := of_decide_eq_true (by first | (with_reducible assumption) | assumption)
       obtain ⟨ad239, e239, hx239_0, hx239_1⟩ := at_T47 HR0.out x7_1 p239 q239
       cases e239; replace p239 := eq_true p239; replace q239 := eq_true q239
       have p240 : 0 ≤ (x7_1 : Int) := of_decide_eq_true (by first | (with_reducible assumption) | assumption)
       have q240 : x7_1 < (l0.length : Int) := of_decide_eq_true (by first | (with_reducible assumption) | assumption)
       obtain ⟨ad240, e240, hx240_0, hx240_1⟩ := at_T47 HR0.out x7_1 p240 q240
       obtain rfl : ad239 = ad240 := (by injection e240)
       replace p240 := eq_true p240; replace q240 := eq_true q240
       go_wp2_with (first | (go_at_call 40; (with_reducible refine (swarfref29_in.calls k1 _ _ l1 ((rd_T47 l0 x7_1).f0) false _ ?side1 ?side2 A7.out).mono ?_); (case side1 => repeat (first | exact HR1.out | (with_reducible refine Kd.C_alloc ?_ _) | (with_reducible refine Kd.C_drewN ?_ _) | (with_reducible refine Kd.C_drew ?_))); (case side2 => exact HC1.out); rintro e w' ⟨rfl, ⟨nd, rfl⟩⟩))
       go_ret
       exact ⟨by first | rfl | (simp; done) | (simp [*]; done), by repeat (first | exact Drawn0.refl _ | apply Drawn0.step)⟩
     ·rw [if_neg c6] at H
      have c6b0 : (((rd_T47 l0 x7_1).f1) == a2) = false := beq_eq_false_iff_ne.mpr c6
      have c6b1 : (((rd_T47 l0 x7_1).f1) != a2) = true := bne_iff_ne.mpr c6
      have H' := aK H; clear H
      have p239 : 0 ≤ (x7_1 : Int) := of_decide_eq_true (by first | (with_reducible assumption) | assumption)
      have q239 : x7_1 < (l0.length : Int) := of_decide_eq_true (by first | (with_reducible assumption) | assumption)
      obtain ⟨ad239, e239, hx239_0, hx239_1⟩ := at_T47 HR0.out x7_1 p239 q239
      cases e239; replace p239 := eq_true p239; replace q239 := eq_true q239; go_wp2
      go_roundg k1
      case measure => have := HK1.out; omega
      case rel => exact ⟨(wrap64 (x7_1 + 1)), (by first | rfl | (simp; done) | (simp [*]; done)), H', ⟨by have := HK1.out; omega⟩, by repeat (first | exact Drawn0.refl _ | apply Drawn0.step)⟩
    ·rw [if_neg c5] at H
     exact absurd H (by simp)
   ·rw [if_neg c4] at H
    have c4b0 : decide (x7_1 < (l0.length : Int)) = false := decide_eq_false c4
    clear c4; obtain rfl := Option.some.inj H; go_wp2; go_ret
    exact ⟨by first | rfl | (simp; done) | (simp [*]; done), by repeat (first | exact Drawn0.refl _ | apply Drawn0.step)⟩

end Go.Proofs.Ytbbkclcfmcjlgaa.P



namespace Go.Proofs.Ytbbkclcfmcjlgaa.B
open Go.RowKit Go.Proofs.Ytbbkclcfmcjlgaa.P Go.Proofs.YtbbkclcfmcjlgaaW.PrintWords Go.Proofs.YtbbkclcfmcjlgaaW.PrintLast Go.Proofs.YtbbkclcfmcjlgaaW.PrintMore
set_option linter.unusedVariables false
set_option linter.unusedSimpArgs false

theorem wrap_mid (x : Int) (h0 : -4000000000000000 ≤ x) (h1 : x ≤ 4000000000000000) : wrap64 x = x := by unfold wrap64; omega
theorem wrap_succ (x : Int) (h0 : 0 ≤ x) (h1 : x ≤ 1000000000000000) : wrap64 (x + 1) = x + 1 := wrap_mid _ (by omega) (by omega)
theorem ev_end {α : Type} {g : Nat → Option α} {r : α} (h : ∀ k, g (k + 1) = some r) : Ev g r := Ev.step (f := fun _ => some r) h (Ev.now r)
def EvP {α : Type} (g : Nat → Option α) (Post : α → Prop) : Prop := ∃ r, Ev g r ∧ Post r
theorem EvP.step {α : Type} {g f : Nat → Option α} {Post : α → Prop} (h : ∀ k, g (k + 1) = f k) (k : EvP f Post) : EvP g Post := by
 obtain ⟨r, h1, h2⟩ := k
 exact ⟨r, Ev.step h h1, h2⟩
theorem EvP.stop {α : Type} {g : Nat → Option α} {Post : α → Prop} (r : α) (h : ∀ k, g (k + 1) = some r) (hp : Post r) : EvP g Post := ⟨r, ev_end h, hp⟩
theorem EvP.bind {α β : Type} {g : Nat → Option α} {f : Nat → α → Option β} {a : α} {Post : β → Prop} (h : Ev g a) (k : EvP (fun n => f n a) Post) : EvP (fun n => (g n).bind (f n)) Post := by
 obtain ⟨r, h1, h2⟩ := k
 exact ⟨r, Ev.bind h h1, h2⟩
theorem EvP.bindP {α β : Type} {g : Nat → Option α} {f : Nat → α → Option β} {P1 : α → Prop} {Post : β → Prop} (h : EvP g P1) (k : ∀ a, P1 a → EvP (fun n => f n a) Post) : EvP (fun n => (g n).bind (f n)) Post := by
 obtain ⟨a, h1, h2⟩ := h
 exact EvP.bind h1 (k a h2)
theorem EvP.mono {α : Type} {g : Nat → Option α} {P Q : α → Prop} (h : EvP g P) (hq : ∀ a, P a → Q a) : EvP g Q := by
 obtain ⟨r, h1, h2⟩ := h
 exact ⟨r, h1, hq _ h2⟩
theorem EvP.same {α : Type} {g f : Nat → Option α} {Post : α → Prop} (h : ∀ k, g k = f k) (k : EvP f Post) : EvP g Post := by
 have : g = f := funext h
 rw [this]; exact k

theorem drop_T47 (l : List S47) (j : Int) (h0 : 0 ≤ j) (h : j < (l.length : Int)) : l.drop j.toNat = rd_T47 l j :: l.drop (j + 1).toNat := by
 have h1 : j.toNat < l.length := by omega
 rw [List.drop_eq_getElem_cons h1, show (j + 1).toNat = j.toNat + 1 by omega]
 congr 1
 unfold rd_T47
 simp [List.getD, h1]
theorem drop_rd (l : List Int) (j : Int) (h0 : 0 ≤ j) (h : j < (l.length : Int)) : l.drop j.toNat = rd l j :: l.drop (j + 1).toNat := by
 have h1 : j.toNat < l.length := by omega
 rw [List.drop_eq_getElem_cons h1, show (j + 1).toNat = j.toNat + 1 by omega]
 congr 1
 unfold rd
 simp [List.getD, h1]
theorem drop_end {α : Type} (l : List α) (j : Int) (h : (l.length : Int) ≤ j) : l.drop j.toNat = [] := List.drop_eq_nil_of_le (by omega)

def okp (n : Int) (p : S47) : Bool := decide (p.f0 ≠ p.f1) && (decide (0 ≤ p.f0) && decide (p.f0 < n)) && (decide (0 ≤ p.f1) && decide (p.f1 < n))
theorem okp_iff (n : Int) (p : S47) : okp n p = true ↔ p.f0 ≠ p.f1 ∧ (0 ≤ p.f0 ∧ p.f0 < n) ∧ (0 ≤ p.f1 ∧ p.f1 < n) := by simp [okp, and_assoc]
def vErr (n : Int) (l : List S47) : Int := if n > 200 ∨ (l.length : Int) > 2000 then 3 else if n < 0 then 1 else if l.all (okp n) = true then 0 else 1
theorem vErr_zero {n : Int} {l : List S47} (h : vErr n l = 0) : 0 ≤ n ∧ n ≤ 200 ∧ l.length ≤ 2000 ∧ ∀ p ∈ l, okp n p = true := by
 unfold vErr at h
 split at h
 ·cases h
 ·split at h
  ·cases h
  ·split at h
   ·rename_i h1 h2 h3
    refine ⟨by omega, by omega, by omega, ?_⟩
    rw [List.all_eq_true] at h3
    exact h3
   ·cases h
theorem valid_l0 (n : Int) (l : List S47) (hn : l.length ≤ 100000000000000) (d : Nat) : ∀ j : Int, 0 ≤ j → j + d = l.length → Ev (fun k => precedence_Valid.l0 k n l (l.length : Int) j) (if (l.drop j.toNat).all (okp n) = true then 0 else 1) := by
 induction d with
 | zero =>
  intro j h0 hj
  rw [drop_end l j (by omega)]
  exact ev_end (fun k => by simp only [precedence_Valid.l0]; rw [if_neg (by omega)]; rfl)
 | succ d ih =>
  intro j h0 hj
  have hw := wrap_succ j h0 (by omega)
  rw [drop_T47 l j h0 (by omega)]
  generalize hp : rd_T47 l j = p
  by_cases ho : okp n p = true
  ·have hi := ih (j + 1) (by omega) (by omega)
   rw [List.all_cons, ho, Bool.true_and]
   refine Ev.step (fun k => ?_) hi
   rw [okp_iff] at ho
   simp only [precedence_Valid.l0]
   rw [if_pos (by omega), if_pos (by omega), if_pos (by omega), hp, if_neg ho.1, if_neg (by unfold mn; split <;> omega), if_neg (by unfold mx; split <;> omega), hw]
  ·rw [List.all_cons, show okp n p = false by simpa using ho, Bool.false_and]
   refine ev_end (fun k => ?_)
   rw [okp_iff] at ho
   simp only [precedence_Valid.l0]
   rw [if_pos (by omega), if_pos (by omega), if_pos (by omega), hp]
   by_cases h1 : p.f0 = p.f1
   ·rw [if_pos h1]; rfl
   ·rw [if_neg h1]
    by_cases h2 : mn p.f0 p.f1 < 0
    ·rw [if_pos h2]; rfl
    ·rw [if_neg h2, if_pos (by unfold mn at h2; unfold mx; split at h2 <;> split <;> omega)]; rfl
theorem rvalid_l0 (n : Int) (l : List S47) (hn : l.length ≤ 100000000000000) (d : Nat) : ∀ j : Int, 0 ≤ j → j + d = l.length → Ev (fun k => swarfref29_Valid.l0 k n l j) (if (l.drop j.toNat).all (okp n) = true then 0 else 1) := by
 induction d with
 | zero =>
  intro j h0 hj
  rw [drop_end l j (by omega)]
  exact ev_end (fun k => by simp only [swarfref29_Valid.l0]; rw [if_neg (by omega)]; rfl)
 | succ d ih =>
  intro j h0 hj
  have hw := wrap_succ j h0 (by omega)
  rw [drop_T47 l j h0 (by omega)]
  generalize hp : rd_T47 l j = p
  by_cases ho : okp n p = true
  ·have hi := ih (j + 1) (by omega) (by omega)
   rw [List.all_cons, ho, Bool.true_and]
   refine Ev.step (fun k => ?_) hi
   rw [okp_iff] at ho
   simp only [swarfref29_Valid.l0]
   rw [if_pos (by omega), if_pos (by omega), hp, if_neg (by omega), if_neg (by omega), if_neg (by omega), if_neg (by omega), if_neg ho.1, hw]
  ·rw [List.all_cons, show okp n p = false by simpa using ho, Bool.false_and]
   refine ev_end (fun k => ?_)
   rw [okp_iff] at ho
   simp only [swarfref29_Valid.l0]
   rw [if_pos (by omega), if_pos (by omega), hp]
   by_cases h1 : p.f0 < 0
   ·rw [if_pos h1]; rfl
   ·rw [if_neg h1]
    by_cases h2 : p.f0 ≥ n
    ·rw [if_pos h2]; rfl
    ·rw [if_neg h2]
     by_cases h3 : p.f1 < 0
     ·rw [if_pos h3]; rfl
     ·rw [if_neg h3]
      by_cases h4 : p.f1 ≥ n
      ·rw [if_pos h4]; rfl
      ·rw [if_neg h4, if_pos (by omega)]; rfl
theorem valid_ev (n : Int) (l : List S47) (hn : l.length ≤ 100000000000000) : Ev (fun k => precedence_Valid.f k n l) (vErr n l) := by
 have h := valid_l0 n l hn l.length 0 (by omega) (by omega)
 rw [show (0 : Int).toNat = 0 from rfl, List.drop_zero] at h
 unfold precedence_Valid.f vErr
 by_cases c : n > 200
 ·simp only [if_pos c, if_pos (show n > 200 ∨ (l.length : Int) > 2000 from .inl c)]
  exact ev_end (fun k => by simp [precedence_Valid.j0])
 ·simp only [if_neg c]
  by_cases c2 : (l.length : Int) > 2000
  ·simp only [if_pos (show n > 200 ∨ (l.length : Int) > 2000 from .inr c2), decide_eq_true c2]
   exact ev_end (fun k => by simp [precedence_Valid.j0])
  ·simp only [if_neg (show ¬ (n > 200 ∨ (l.length : Int) > 2000) by omega), decide_eq_false c2]
   by_cases c3 : n < 0
   ·simp only [if_pos c3]
    exact ev_end (fun k => by simp [precedence_Valid.j0, c3])
   ·simp only [if_neg c3]
    refine Ev.step (fun k => ?_) h
    simp only [precedence_Valid.j0]
    rw [if_neg (by decide), if_neg c3]
theorem rvalid_ev (n : Int) (l : List S47) (hn : l.length ≤ 100000000000000) : Ev (fun k => swarfref29_Valid.f k n l) (vErr n l) := by
 have h := rvalid_l0 n l hn l.length 0 (by omega) (by omega)
 rw [show (0 : Int).toNat = 0 from rfl, List.drop_zero] at h
 unfold swarfref29_Valid.f vErr
 by_cases c : n > 200
 ·simp only [if_pos c, if_pos (show n > 200 ∨ (l.length : Int) > 2000 from .inl c)]
  exact ev_end (fun k => by simp [swarfref29_Valid.j0])
 ·simp only [if_neg c]
  by_cases c2 : (l.length : Int) > 2000
  ·simp only [if_pos (show n > 200 ∨ (l.length : Int) > 2000 from .inr c2), decide_eq_true c2]
   exact ev_end (fun k => by simp [swarfref29_Valid.j0])
  ·simp only [if_neg (show ¬ (n > 200 ∨ (l.length : Int) > 2000) by omega), decide_eq_false c2]
   by_cases c3 : n < 0
   ·simp only [if_pos c3]
    exact ev_end (fun k => by simp [swarfref29_Valid.j0, c3])
   ·simp only [if_neg c3]
    refine Ev.step (fun k => ?_) h
    simp only [swarfref29_Valid.j0]
    rw [if_neg (by decide), if_neg c3]
def fewB (n m : Int) (l : List S47) : Bool := if (l.length : Int) ≤ 60 then (if n ≤ m then true else (vErr n l != 0)) else false
theorem few_ev (n m : Int) (l : List S47) : Ev (fun k => swarflaw29_few.f k n m l) (fewB n m l) := by
 unfold swarflaw29_few.f fewB
 by_cases c : (l.length : Int) ≤ 60
 ·simp only [if_pos c]
  by_cases c2 : n ≤ m
  ·simp only [if_pos c2]; exact Ev.now _
  ·simp only [if_neg c2]
   exact Ev.bind (rvalid_ev n l (by omega)) (Ev.now _)
 ·simp only [if_neg c]; exact Ev.now _
theorem cp_eq (l : List S47) (hn : l.length < 8796093022208) : swarflaw29_cp.f l = some l := by
 unfold swarflaw29_cp.f
 simp only [Option.bind_some]
 rw [if_pos (by simpa using hn)]
 rfl

theorem S47.eta (p q : S47) : p = q ↔ p.f0 = q.f0 ∧ p.f1 = q.f1 := by
 constructor
 ·rintro rfl; exact ⟨rfl, rfl⟩
 ·cases p; cases q; rintro ⟨rfl, rfl⟩; rfl
instance : DecidableEq S47 := fun p q => if h : p.f0 = q.f0 ∧ p.f1 = q.f1 then isTrue ((S47.eta p q).2 h) else isFalse (fun e => h ((S47.eta p q).1 e))
theorem pairs_l0 (a b : List S47) (hl : a.length = b.length) (hn : a.length ≤ 100000000000000) (d : Nat) : ∀ j : Int, 0 ≤ j → j + d = a.length → Ev (fun k => swarfref29_Pairs.l0 k a b j) (decide (a.drop j.toNat = b.drop j.toNat)) := by
 induction d with
 | zero =>
  intro j h0 hj
  rw [drop_end a j (by omega), drop_end b j (by omega)]
  exact ev_end (fun k => by simp only [swarfref29_Pairs.l0]; rw [if_neg (by omega)]; rfl)
 | succ d ih =>
  intro j h0 hj
  have hw := wrap_succ j h0 (by omega)
  rw [drop_T47 a j h0 (by omega), drop_T47 b j h0 (by omega)]
  by_cases h : rd_T47 a j = rd_T47 b j
  ·have hi := ih (j + 1) (by omega) (by omega)
   rw [show decide (rd_T47 a j :: a.drop (j + 1).toNat = rd_T47 b j :: b.drop (j + 1).toNat) = decide (a.drop (j + 1).toNat = b.drop (j + 1).toNat) by simp [h]]
   refine Ev.step (fun k => ?_) hi
   simp only [swarfref29_Pairs.l0]
   rw [if_pos (by omega), if_pos (by omega), if_pos (by omega), h, if_neg (by simp), hw]
  ·rw [show decide (rd_T47 a j :: a.drop (j + 1).toNat = rd_T47 b j :: b.drop (j + 1).toNat) = false by simp [h]]
   refine ev_end (fun k => ?_)
   simp only [swarfref29_Pairs.l0]
   rw [if_pos (by omega), if_pos (by omega), if_pos (by omega), if_pos]
   rw [S47.eta] at h
   simp only [Bool.or_eq_true, Bool.not_eq_true', beq_eq_false_iff_ne]
   by_cases h1 : (rd_T47 a j).f0 = (rd_T47 b j).f0
   ·exact .inr (fun h2 => h ⟨h1, h2⟩)
   ·exact .inl h1
theorem pairs_ev (a b : List S47) (hn : a.length ≤ 100000000000000) : Ev (fun k => swarfref29_Pairs.f k a b) (decide (a = b)) := by
 unfold swarfref29_Pairs.f
 by_cases h : (a.length : Int) = b.length
 ·simp only [if_pos h]
  exact pairs_l0 a b (by omega) hn a.length 0 (by omega) (by omega)
 ·simp only [if_neg h]
  rw [show decide (a = b) = false from decide_eq_false (fun e => h (by rw [e]))]
  exact Ev.now _

def rdy (l : List S47) (o : List Int) (x : Int) : Bool := l.all fun p => decide (p.f1 = x → p.f0 ∈ o)
theorem rdy_iff (l : List S47) (o : List Int) (x : Int) : rdy l o x = true ↔ ∀ a, (⟨a, x⟩ : S47) ∈ l → a ∈ o := by
 unfold rdy
 rw [List.all_eq_true]
 constructor
 ·intro h a ha
  have := h _ ha
  simpa using this
 ·intro h p hp
  rw [decide_eq_true_iff]
  intro e
  exact h p.f0 (by rw [← e]; exact hp)
end Go.Proofs.Ytbbkclcfmcjlgaa.B

namespace Go.Proofs.Ytbbkclcfmcjlgaa.Gr
set_option linter.unusedVariables false

inductive Tc (R : Int → Int → Prop) : Int → Int → Prop
 | one {a b : Int} : R a b → Tc R a b
 | step {a c b : Int} : R a c → Tc R c b → Tc R a b
section
variable {R R' : Int → Int → Prop} {n a b c : Int}
theorem Tc.trans (h : Tc R a b) : Tc R b c → Tc R a c := by
 induction h with
 | one h => exact fun k => .step h k
 | step h _ ih => exact fun k => .step h (ih k)
theorem Tc.mono (hr : ∀ a b, R a b → R' a b) (h : Tc R a b) : Tc R' a b := by
 induction h with
 | one h => exact .one (hr _ _ h)
 | step h _ ih => exact .step (hr _ _ h) ih
theorem Tc.join (hr : ∀ a b, R a b → Tc R' a b) (h : Tc R a b) : Tc R' a b := by
 induction h with
 | one h => exact hr _ _ h
 | step h _ ih => exact (hr _ _ h).trans ih
def Inn (R : Int → Int → Prop) (n : Int) : Prop := ∀ a b, R a b → (0 ≤ a ∧ a < n) ∧ (0 ≤ b ∧ b < n)
theorem Tc.inn (hr : Inn R n) (h : Tc R a b) : (0 ≤ a ∧ a < n) ∧ (0 ≤ b ∧ b < n) := by
 induction h with
 | one h => exact hr _ _ h
 | step h _ ih => exact ⟨(hr _ _ h).1, ih.2⟩
theorem Tc.head (h : Tc R a b) : ∃ c, R a c ∧ (c = b ∨ Tc R c b) := by
 cases h with
 | one h => exact ⟨_, h, .inl rfl⟩
 | step h k => exact ⟨_, h, .inr k⟩
theorem Tc.of_head (h : R a c) (k : c = b ∨ Tc R c b) : Tc R a b := by
 rcases k with rfl | k
 ·exact .one h
 ·exact .step h k
inductive Pk (R : Int → Int → Prop) (k : Int) : Int → Int → Prop
 | one {a b : Int} : R a b → Pk R k a b
 | step {a c b : Int} : R a c → c < k → Pk R k c b → Pk R k a b
variable {k : Int}
theorem Pk.tc (h : Pk R k a b) : Tc R a b := by
 induction h with
 | one h => exact .one h
 | step h _ _ ih => exact .step h ih
theorem Pk.mono {k' : Int} (hk : k ≤ k') (h : Pk R k a b) : Pk R k' a b := by
 induction h with
 | one h => exact .one h
 | step h hc _ ih => exact .step h (by omega) ih
theorem Pk.split (h : Pk R (k + 1) a b) : Pk R k a b ∨ (Pk R k a k ∧ Pk R k k b) := by
 induction h with
 | one h => exact .inl (.one h)
 | @step a c b h hc _ ih =>
  by_cases e : c = k
  ·subst e
   rcases ih with ih | ih
   ·exact .inr ⟨.one h, ih⟩
   ·exact .inr ⟨.one h, ih.2⟩
  ·have hc' : c < k := by omega
   rcases ih with ih | ih
   ·exact .inl (.step h hc' ih)
   ·exact .inr ⟨.step h hc' ih.1, ih.2⟩
theorem Pk.zero (hr : Inn R n) (h : Pk R 0 a b) : R a b := by
 cases h with
 | one h => exact h
 | step h hc _ => have := (hr _ _ h).2.1; omega
end

theorem pig (n : Nat) : ∀ o : List Int, o.Nodup → (∀ x ∈ o, 0 ≤ x ∧ x < (n : Int)) → o.length ≤ n := by
 induction n with
 | zero =>
  intro o _ h
  cases o with
  | nil => exact Nat.le_refl _
  | cons x o => have := h x List.mem_cons_self; omega
 | succ n ih =>
  intro o hd h
  by_cases hm : (n : Int) ∈ o
  ·have h1 := ih (o.erase (n : Int)) (hd.erase _) (fun x hx => by
    have h2 := (hd.mem_erase_iff).1 hx
    have h3 := h x h2.2
    have : x ≠ (n : Int) := h2.1
    omega)
   rw [List.length_erase_of_mem hm] at h1
   omega
  ·have h1 := ih o hd (fun x hx => by
    have h3 := h x hx
    have : x ≠ (n : Int) := fun e => hm (e ▸ hx)
    omega)
   omega
theorem all_in (n : Nat) : ∀ o : List Int, (∀ i : Int, 0 ≤ i → i < (n : Int) → i ∈ o) → n ≤ o.length := by
 induction n with
 | zero => intro o _; omega
 | succ n ih =>
  intro o h
  have hm := h n (by omega) (by omega)
  have h1 := ih (o.erase (n : Int)) (fun i h0 hi => (List.mem_erase_of_ne (by omega)).2 (h i h0 (by omega)))
  rw [List.length_erase_of_mem hm] at h1
  have := List.length_pos_of_mem hm
  omega
theorem some_out {n : Int} {o : List Int} (h : (o.length : Int) < n) : ∃ i : Int, (0 ≤ i ∧ i < n) ∧ ¬ i ∈ o := by
 by_cases hx : ∃ i : Int, (0 ≤ i ∧ i < n) ∧ ¬ i ∈ o
 ·exact hx
 ·have := all_in n.toNat o (fun i h0 hi => by
   by_cases hm : i ∈ o
   ·exact hm
   ·exact absurd ⟨i, ⟨h0, by omega⟩, hm⟩ hx)
  omega
theorem full_in {n : Int} {o : List Int} (hd : o.Nodup) (h : ∀ x ∈ o, 0 ≤ x ∧ x < n) (hl : (o.length : Int) = n) (i : Int) (h0 : 0 ≤ i) (hi : i < n) : i ∈ o := by
 by_cases hm : i ∈ o
 ·exact hm
 ·have := pig n.toNat (i :: o) (List.nodup_cons.2 ⟨hm, hd⟩) (fun x hx => by
   rcases List.mem_cons.1 hx with rfl | hx
   ·omega
   ·have := h x hx; omega)
  simp only [List.length_cons] at this
  omega

def Acyc (R : Int → Int → Prop) : Prop := ∀ a, ¬ Tc R a a
def Topo (R : Int → Int → Prop) (o : List Int) : Prop := ∀ (i : Nat) (x : Int), o[i]? = some x → ∀ j, R j x → j ∈ o.take i
theorem Topo.tc {R : Int → Int → Prop} {o : List Int} (ht : Topo R o) {a b : Int} (h : Tc R a b) : ∀ i : Nat, o[i]? = some b → a ∈ o.take i := by
 induction h with
 | one h => exact fun i hi => ht i _ hi _ h
 | @step a c b h _ ih =>
  intro i hi
  have hc := ih i hi
  obtain ⟨j, hj⟩ := List.getElem?_of_mem hc
  have hji : j < i := by
   rw [List.getElem?_take] at hj
   split at hj
   ·assumption
   ·cases hj
  have hj' : o[j]? = some c := by
   rw [List.getElem?_take, if_pos hji] at hj
   exact hj
  have := ht j c hj' a h
  exact (List.take_subset_take_left o (by omega)) this
theorem Topo.acyc {R : Int → Int → Prop} {o : List Int} {n : Int} (ht : Topo R o) (hd : o.Nodup) (hin : Inn R n) (hall : ∀ i, 0 ≤ i → i < n → i ∈ o) : Acyc R := by
 intro a h
 have ha := (h.inn hin).1
 obtain ⟨i, hi⟩ := List.getElem?_of_mem (hall a ha.1 ha.2)
 have h1 := ht.tc h i hi
 obtain ⟨j, hj⟩ := List.getElem?_of_mem h1
 have hji : j < i := by
  rw [List.getElem?_take] at hj
  split at hj
  ·assumption
  ·cases hj
 rw [List.getElem?_take, if_pos hji] at hj
 obtain ⟨hil, hi2⟩ := List.getElem?_eq_some_iff.1 hi
 obtain ⟨hjl, hj2⟩ := List.getElem?_eq_some_iff.1 hj
 have := (List.getElem_inj (xs := o) (h₀ := hjl) (h₁ := hil) hd).1 (hj2.trans hi2.symm)
 omega
theorem source {R : Int → Int → Prop} {n : Int} (hin : Inn R n) (hac : Acyc R) (o : List Int) (hx : ∃ i : Int, (0 ≤ i ∧ i < n) ∧ ¬ i ∈ o) : ∃ i : Int, (0 ≤ i ∧ i < n) ∧ ¬ i ∈ o ∧ ∀ j, R j i → j ∈ o := by
 by_cases hz : ∃ i : Int, (0 ≤ i ∧ i < n) ∧ ¬ i ∈ o ∧ ∀ j, R j i → j ∈ o
 ·exact hz
 ·exfalso
  have step : ∀ i : Int, (0 ≤ i ∧ i < n) → ¬ i ∈ o → ∃ j, R j i ∧ ¬ j ∈ o := by
   intro i hi ho
   by_cases he : ∃ j, R j i ∧ ¬ j ∈ o
   ·exact he
   ·exact absurd ⟨i, hi, ho, fun j hj => by
     by_cases hm : j ∈ o
     ·exact hm
     ·exact absurd ⟨j, hj, hm⟩ he⟩ hz
  have chain : ∀ m : Nat, ∃ (h : Int) (L : List Int), (h :: L).length = m + 1 ∧ (h :: L).Nodup ∧ (∀ x ∈ h :: L, 0 ≤ x ∧ x < n) ∧ ¬ h ∈ o ∧ ∀ y ∈ L, Tc R h y := by
   intro m
   induction m with
   | zero =>
    obtain ⟨i, hi, ho⟩ := hx
    exact ⟨i, [], rfl, by simp, by simpa using hi, ho, by simp⟩
   | succ m ih =>
    obtain ⟨h, L, hl, hd, hb, ho, ht⟩ := ih
    obtain ⟨j, hj, hjo⟩ := step h (hb h List.mem_cons_self) ho
    refine ⟨j, h :: L, by simp only [List.length_cons] at hl ⊢; omega, List.nodup_cons.2 ⟨fun hm => ?_, hd⟩, fun x hx => ?_, hjo, fun y hy => ?_⟩
    ·rcases List.mem_cons.1 hm with rfl | hm
     ·exact hac _ (.one hj)
     ·exact hac _ (.step hj (ht _ hm))
    ·rcases List.mem_cons.1 hx with rfl | hx
     ·exact (hin _ _ hj).1
     ·exact hb x hx
    ·rcases List.mem_cons.1 hy with rfl | hy
     ·exact .one hj
     ·exact .step hj (ht y hy)
  obtain ⟨h, L, hl, hd, hb, _, _⟩ := chain n.toNat
  have := pig n.toNat (h :: L) hd (fun x hx => by have := hb x hx; omega)
  omega

def Red (R : Int → Int → Prop) (a b : Int) : Prop := Tc R a b ∧ ¬ ∃ c, Tc R a c ∧ Tc R c b
theorem red_tc {R : Int → Int → Prop} {n : Int} (hin : Inn R n) (hac : Acyc R) {a b : Int} (h : Tc R a b) : Tc (Red R) a b := by
 have key : ∀ (m : Nat) (a b : Int), Tc R a b → (∀ L : List Int, L.Nodup → (∀ c ∈ L, Tc R a c ∧ Tc R c b) → L.length ≤ m) → Tc (Red R) a b := by
  intro m
  induction m with
  | zero =>
   intro a b h hm
   refine .one ⟨h, ?_⟩
   rintro ⟨c, hc⟩
   have := hm [c] (by simp) (by simpa using hc)
   simp at this
  | succ m ih =>
   intro a b h hm
   by_cases hc : ∃ c, Tc R a c ∧ Tc R c b
   ·obtain ⟨c, h1, h2⟩ := hc
    refine (ih a c h1 (fun L hd hL => ?_)).trans (ih c b h2 (fun L hd hL => ?_))
    ·have := hm (c :: L) (List.nodup_cons.2 ⟨fun hx => hac c (hL c hx).2, hd⟩) (fun x hx => by
      rcases List.mem_cons.1 hx with rfl | hx
      ·exact ⟨h1, h2⟩
      ·exact ⟨(hL x hx).1, (hL x hx).2.trans h2⟩)
     simp at this
     omega
    ·have := hm (c :: L) (List.nodup_cons.2 ⟨fun hx => hac c (hL c hx).1, hd⟩) (fun x hx => by
      rcases List.mem_cons.1 hx with rfl | hx
      ·exact ⟨h1, h2⟩
      ·exact ⟨h1.trans (hL x hx).1, (hL x hx).2⟩)
     simp at this
     omega
   ·exact .one ⟨h, hc⟩
 refine key n.toNat a b h (fun L hd hL => pig n.toNat L hd (fun x hx => ?_))
 have := ((hL x hx).1.inn hin).2
 omega
theorem tc_red {R : Int → Int → Prop} {a b : Int} (h : Tc (Red R) a b) : Tc R a b := h.join (fun a b h => h.1)
theorem red_less {R : Int → Int → Prop} {a b : Int} (h : Red R a b) (R' : Int → Int → Prop) (hr : ∀ x y, R' x y → Red R x y ∧ ¬ (x = a ∧ y = b)) : ¬ Tc R' a b := by
 intro ht
 cases ht with
 | one h1 => exact (hr _ _ h1).2 ⟨rfl, rfl⟩
 | @step _ c _ h1 h2 =>
  exact h.2 ⟨c, (hr _ _ h1).1.1, tc_red (h2.mono (fun x y h => (hr x y h).1))⟩
end Go.Proofs.Ytbbkclcfmcjlgaa.Gr
