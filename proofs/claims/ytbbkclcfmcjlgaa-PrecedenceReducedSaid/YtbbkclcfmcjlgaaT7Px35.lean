import Derived.Test.YtbbkclcfmcjlgaaT7M21

namespace Go.Proofs.Ytbbkclcfmcjlgaa.P
open Go.RowKit Go.Proofs.YtbbkclcfmcjlgaaW.PrintWords Go.Proofs.YtbbkclcfmcjlgaaW.PrintLast Go.Proofs.YtbbkclcfmcjlgaaW.PrintMore
attribute [local go_sem] max2_int min2_int max_two min_two max_three min_three max_four min_four
set_option linter.unusedVariables false
set_option linter.unusedSimpArgs false

mutual
def swarfref29_Depends.l0 : Nat → Int → List (S47) → List (List Bool) → Int → Option ((List (List Bool)))
 | 0, _, _, _, _ => none
 | k + 1, x0, x1, x5, x6 => if x6 < x0 then (if 0 ≤ x0 then (if (x0 : Int).toNat ≤ 281474976710656 then (if 0 ≤ x6 then (if x6 < (x5.length : Int) then (swarfref29_Depends.l0 k x0 x1 (x5.set (x6 : Int).toNat (List.replicate (x0 : Int).toNat false)) (wrap64 (x6 + 1))) else (none)) else (none)) else (none)) else (none)) else (swarfref29_Depends.l1 k x0 x1 x5 0)
def swarfref29_Depends.l1 : Nat → Int → List (S47) → List (List Bool) → Int → Option ((List (List Bool)))
 | 0, _, _, _, _ => none
 | k + 1, x0, x1, x5, x7 => if x7 < (x1.length : Int) then (if 0 ≤ x7 then (if 0 ≤ ((rd_T47 x1 x7).f0) then (if ((rd_T47 x1 x7).f0) < (x5.length : Int) then (if 0 ≤ ((rd_T47 x1 x7).f1) then (if ((rd_T47 x1 x7).f1) < ((rd_L7 x5 ((rd_T47 x1 x7).f0)).length : Int) then (swarfref29_Depends.l1 k x0 x1 (x5.set (((rd_T47 x1 x7).f0) : Int).toNat ((rd_L7 x5 ((rd_T47 x1 x7).f0)).set (((rd_T47 x1 x7).f1) : Int).toNat true)) (wrap64 (x7 + 1))) else (none)) else (none)) else (none)) else (none)) else (none)) else (swarfref29_Depends.l2 k x0 x5 0)
def swarfref29_Depends.l2 : Nat → Int → List (List Bool) → Int → Option ((List (List Bool)))
 | 0, _, _, _ => none
 | k + 1, x0, x5, x8 => if x8 < x0 then (swarfref29_Depends.l3 k x0 x5 x8 0) else (some x5)
def swarfref29_Depends.l3 : Nat → Int → List (List Bool) → Int → Int → Option ((List (List Bool)))
 | 0, _, _, _, _ => none
 | k + 1, x0, x5, x8, x9 => if x9 < x0 then (swarfref29_Depends.l4 k x0 x5 x8 x9 0) else (swarfref29_Depends.l2 k x0 x5 (wrap64 (x8 + 1)))
def swarfref29_Depends.l4 : Nat → Int → List (List Bool) → Int → Int → Int → Option ((List (List Bool)))
 | 0, _, _, _, _, _ => none
 | k + 1, x0, x5, x8, x9, x10 => if x10 < x0 then (if 0 ≤ x9 then (if x9 < (x5.length : Int) then (if 0 ≤ x10 then (if x10 < ((rd_L7 x5 x9).length : Int) then (if rdOf false (rd_L7 x5 x9) x10 = true then (swarfref29_Depends.l4 k x0 (x5.set (x9 : Int).toNat ((rd_L7 x5 x9).set (x10 : Int).toNat true)) x8 x9 (wrap64 (x10 + 1))) else (if 0 ≤ x8 then (if x8 < ((rd_L7 x5 x9).length : Int) then (if rdOf false (rd_L7 x5 x9) x8 = true then (if x8 < (x5.length : Int) then (if x10 < ((rd_L7 x5 x8).length : Int) then (swarfref29_Depends.l4 k x0 (x5.set (x9 : Int).toNat ((rd_L7 x5 x9).set (x10 : Int).toNat (rdOf false (rd_L7 x5 x8) x10))) x8 x9 (wrap64 (x10 + 1))) else (none)) else (none)) else (swarfref29_Depends.l4 k x0 (x5.set (x9 : Int).toNat ((rd_L7 x5 x9).set (x10 : Int).toNat false)) x8 x9 (wrap64 (x10 + 1)))) else (none)) else (none))) else (none)) else (none)) else (none)) else (none)) else (swarfref29_Depends.l3 k x0 x5 x8 (wrap64 (x9 + 1)))
end
def swarfref29_Depends.f (k : Nat) (a0 : Int) (l1 : List (S47)) : Option ((List (List Bool))) := if 0 ≤ a0 then (if (a0 : Int).toNat ≤ 11728124029610 then (swarfref29_Depends.l0 k a0 l1 (List.replicate (a0 : Int).toNat []) 0) else (none)) else (none)
def swarfref29_Depends.T9 : Bool × List (List Nat × List Nat) := (true, [([], []), ([], []), ([], []), ([1, 2], [1, 2]), ([3], [3]), ([4], [4]), ([0, 5], [0, 5]), ([6], [6]), ([], []), ([], []), ([8, 9], [8, 9]), ([10], [10]), ([11], [11]), ([7, 12, 0, 1, 2, 3, 4, 5, 6, 7, 8, 9, 10, 11, 12], [7, 12]), ([13, 0, 1, 2, 3, 4, 5, 6, 7, 8, 9, 10, 11, 12], [13])])
def swarfref29_Depends.B9 : List Nat := [0, 0, 0, 6, 14, 30, 63, 127, 0, 0, 768, 1792, 3840, 8191, 16383]
theorem swarfref29_Depends.tab9 : rtab .any (opsOf Try.f44 9) = swarfref29_Depends.T9 := by kernel_rfl
theorem swarfref29_Depends.bits9 : waitsOk swarfref29_Depends.T9.2 swarfref29_Depends.B9 = true := by kernel_rfl
def swarfref29_Depends.T19 : Bool × List (List Nat × List Nat) := (true, [([], []), ([], []), ([0, 1], [0, 1]), ([2], [2]), ([], []), ([], []), ([], []), ([5, 6], [5, 6]), ([7], [7]), ([], []), ([8, 9], [8, 9]), ([10], [10]), ([11], [11]), ([12], [12]), ([12], [12]), ([13, 14, 12], [12, 13, 14]), ([15, 12], [12, 15]), ([12], [12]), ([16, 17, 12], [12, 16, 17]), ([18, 12], [12, 18]), ([19, 12, 12], [12, 19]), ([20], [20]), ([20], [20]), ([21, 22, 20], [20, 21, 22]), ([23, 20], [20, 23]), ([20], [20]), ([24, 25, 20], [20, 24, 25]), ([26, 20], [20, 26]), ([20, 27, 12], [12, 20, 27]), ([12, 28], [12, 28]), ([3, 4, 0, 1, 2, 3, 4, 5, 6, 7, 8, 9, 10, 11, 12, 13, 14, 15, 16, 17, 18, 19, 20, 21, 22, 23, 24, 25, 26, 27, 28, 29], [3, 4]), ([30, 29, 20, 0, 1, 2, 3, 4, 5, 6, 7, 8, 9, 10, 11, 12, 13, 14, 15, 16, 17, 18, 19, 20, 21, 22, 23, 24, 25, 26, 27, 28, 29], [29, 30])])
def swarfref29_Depends.B19 : List Nat := [0, 0, 3, 7, 0, 0, 0, 96, 224, 0, 992, 2016, 4064, 8160, 8160, 32736, 65504, 8160, 262112, 524256, 1048544, 2097120, 2097120, 8388576, 16777184, 2097120, 67108832, 134217696, 268435424, 536870880, 1073741823, 2147483647]
theorem swarfref29_Depends.tab19 : rtab .any (opsOf Try.f44 19) = swarfref29_Depends.T19 := by kernel_rfl
theorem swarfref29_Depends.bits19 : waitsOk swarfref29_Depends.T19.2 swarfref29_Depends.B19 = true := by kernel_rfl
set_option maxHeartbeats 8000000 in
set_option maxRecDepth 100000 in
theorem swarfref29_Depends.calls (k : Nat) (a0 : Int) (A1 : Option Addr) (c1 : Nat) (l1 : List (S47)) (r : List (List Bool)) (w : World) (hr1 : Kd.C k47 w A1 l1.length l1) (hc1 : l1.length ≤ c1) (h : swarfref29_Depends.f k a0 l1 = some r) :
  Calls Try.prog 44 #[.int .i64 a0, .slice A1 l1.length c1] w fun e w' => ∃ v0_ : Value, e = .returned (v0_) ∧ Kd.S (Kd.slice 4 Kd.bool) 52 w' w.heap.size (fun _ => True) v0_ r ∧ Below w.heap.size w w' := by
 have HR1 := aK hr1
 have HC1 := aK hc1
 clear hr1 hc1
 have HB := aK (Below.refl w.heap.size w)
 have H : (if 0 ≤ a0 then (if (a0 : Int).toNat ≤ 11728124029610 then (swarfref29_Depends.l0 k a0 l1 (List.replicate (a0 : Int).toNat []) 0) else (none)) else (none)) = some r := h
 clear h
 by_cases c3 : 0 ≤ a0
 ·rw [if_pos c3] at H
  have c3b0 := eq_true c3
  have c3b1 : decide (0 ≤ a0) = true := decide_eq_true c3
  clear c3
  by_cases c4 : (a0 : Int).toNat ≤ 11728124029610
  ·rw [if_pos c4] at H
   have c4b0 := eq_true c4
   have c4b1 : decide ((a0 : Int).toNat ≤ 11728124029610) = true := decide_eq_true c4
   clear c4
   obtain ⟨y174, hy174⟩ : ∃ y_ : List (List Bool), y_ = (List.replicate (a0 : Int).toNat []) := ⟨_, rfl⟩
   replace H : (swarfref29_Depends.l0 k a0 l1 y174 0) = some r := by first | (rw [hy174]; with_reducible exact H) | (have H2_ := (Option.bind_some _ _).symm.trans H; rw [hy174]; with_reducible exact H2_) | (have H2_ := (Option.bind_some _ _).symm.trans H; with_reducible exact H2_) | with_reducible exact H | (rw [hy174]; exact H) | exact H
   have Ny174 := aK hy174; clear hy174; have H' := aK H; clear H
   go_enter Try.func44, Try.ntmps44
   go_wp2_with (first | ((with_reducible refine gate_dst (N := 12) rfl ?_); refine Kd.S_make (Kd.slice 4 Kd.bool) _ 52 rfl (N := 12) rfl 48 _ _ rfl a0 rfl rfl Try.underlying48 (.slice none 0 0) 24 info52 rfl (by decide) (by omega) [] (ok := fun _ => True) (okp := fun _ => True) ⟨_, rfl, Kd.R_nil _ _ _ _ _⟩ (fun _ hk => hk) trivial (of_decide_eq_true (by first | (with_reducible assumption) | assumption)) (Nat.le_trans (Nat.mul_le_mul_right _ (of_decide_eq_true (by first | (with_reducible assumption) | assumption) : a0.toNat ≤ 11728124029610)) (by omega)) (Below.refl _ _) (Nat.le_refl _) ?_; intro v175 w5 ho6 hb hg_ hnew_; clear hg_ hnew_; (first | rw [← Ny174.out] at ho6 | (simp only [Int.reduceToNat] at ho6; rw [← Ny174.out] at ho6)); have n0_ := aK (Kd.S_lower ho6 (bZ_ (by repeat (first | (with_reducible first | exact HB.out | apply bA_ | apply bN_ | apply bD_) | exact HB.out)))); have n1_ := aK (bT_ (by repeat (first | (with_reducible first | exact HB.out | apply bA_ | apply bN_ | apply bD_) | exact HB.out)) hb); clear HB; have HO176 := n0_; have HB := n1_; clear n0_ n1_; clear hb ho6))
   go_loopg [6] k (fun kq v6 w' => ∃ (x5_1 : List (List Bool)) (x6_1 : Int), v6 = .int .i64 x6_1 ∧ Aside0 (swarfref29_Depends.l0 kq a0 l1 x5_1 x6_1 = some r) ∧ Aside0 (kq ≤ k) ∧ Aside0 (Kd.S (Kd.slice 4 Kd.bool) 52 w' w.heap.size (fun _ => True) v175 x5_1) ∧ Aside0 (Below w.heap.size w w'))
   case atStart => exact ⟨(y174), (0), (by first | rfl | (simp; done) | (simp [*]; done)), H', ⟨Nat.le_refl _⟩, ⟨by (with_reducible repeat (first | apply Kd.S_alloc | apply Kd.S_drewN | apply Kd.S_drew)); exact HO176.out⟩, ⟨by repeat (first | (with_reducible first | exact HB.out | apply bA_ | apply bN_ | apply bD_) | exact HB.out)⟩⟩
   case round =>
    clear H'; try clear c1; try clear p2; try clear c3; try clear c3b0; try clear c3b1; try clear c4; try clear c4b0; try clear c4b1
    obtain ⟨x5_1, x6_1, rfl, HA, HK1, HO_5, HB⟩ := hrel
    cases gk with
    | zero => exact absurd HA.out (by simp [swarfref29_Depends.l0])
    | succ k1 =>
     have H := HA.out
     clear HA
     simp only [swarfref29_Depends.l0] at H
     by_cases c7 : x6_1 < a0
     ·rw [if_pos c7] at H
      have c7b0 : decide (x6_1 < a0) = true := decide_eq_true c7
      clear c7
      by_cases c8 : 0 ≤ a0
      ·rw [if_pos c8] at H
       have c8b0 := eq_true c8
       have c8b1 : decide (0 ≤ a0) = true := decide_eq_true c8
       clear c8
       by_cases c9 : (a0 : Int).toNat ≤ 281474976710656
       ·rw [if_pos c9] at H
        have c9b0 := eq_true c9
        have c9b1 : decide ((a0 : Int).toNat ≤ 281474976710656) = true := decide_eq_true c9
        clear c9
        obtain ⟨y177, hy177⟩ : ∃ y_ : List Bool, y_ = (List.replicate (a0 : Int).toNat false) := ⟨_, rfl⟩
        replace H : (if 0 ≤ x6_1 then (if x6_1 < (x5_1.length : Int) then (swarfref29_Depends.l0 k1 a0 l1 (x5_1.set (x6_1 : Int).toNat y177) (wrap64 (x6_1 + 1))) else (none)) else (none)) = some r := by first | (rw [hy177]; with_reducible exact H) | (have H2_ := (Option.bind_some _ _).symm.trans H; rw [hy177]; with_reducible exact H2_) | (have H2_ := (Option.bind_some _ _).symm.trans H; with_reducible exact H2_) | with_reducible exact H | (rw [hy177]; exact H) | exact H
        have Ny177 := aK hy177; clear hy177
        by_cases c10 : 0 ≤ x6_1
        ·rw [if_pos c10] at H
         have c10b0 : decide (0 ≤ x6_1) = true := decide_eq_true c10
         clear c10
         by_cases c11 : x6_1 < (x5_1.length : Int)
         ·rw [if_pos c11] at H
          have c11b0 : decide (x6_1 < (x5_1.length : Int)) = true := decide_eq_true c11
          clear c11
          obtain ⟨y180, hy180⟩ : ∃ y_ : List (List Bool), y_ = (x5_1.set (x6_1 : Int).toNat y177) := ⟨_, rfl⟩
          replace H : (swarfref29_Depends.l0 k1 a0 l1 y180 (wrap64 (x6_1 + 1))) = some r := by first | (rw [hy180]; with_reducible exact H) | (have H2_ := (Option.bind_some _ _).symm.trans H; rw [hy180]; with_reducible exact H2_) | (have H2_ := (Option.bind_some _ _).symm.trans H; with_reducible exact H2_) | with_reducible exact H | (rw [hy180]; exact H) | exact H
          have Ny180 := aK hy180; clear hy180; have H' := aK H; clear H
          go_wp2_with (first | ((with_reducible refine gate_dst (N := 21) rfl ?_); refine Kd.R_make Kd.bool _ 4 rfl (N := 21) rfl 52 _ _ rfl a0 rfl rfl Try.underlying52 (.bool false) 1 info4 rfl (by decide) (by omega) false (ok := fun _ => True) (okp := fun _ => True) rfl (fun _ hk => hk) trivial (of_decide_eq_true (by first | (with_reducible assumption) | assumption)) (Nat.le_trans (Nat.mul_le_mul_right _ (of_decide_eq_true (by first | (with_reducible assumption) | assumption) : a0.toNat ≤ 281474976710656)) (by omega)) (Below.refl _ _) (Nat.le_refl _) ?_; intro v178 w13 ho14 hb hg_ hnew_; clear hg_ hnew_; (first | rw [← Ny177.out] at ho14 | (simp only [Int.reduceToNat] at ho14; rw [← Ny177.out] at ho14)); have n0_ := aK (Kd.S_elder' (by (with_reducible repeat (first | apply Kd.S_alloc | apply Kd.S_drewN | apply Kd.S_drew)); exact HO_5.out) (Kd.R_base ho14) hb); have n1_ := aK (Kd.R_lower ho14 (bZ_ (by repeat (first | (with_reducible first | exact HB.out | apply bA_ | apply bN_ | apply bD_) | exact HB.out)))); have n2_ := aK (bT_ (by repeat (first | (with_reducible first | exact HB.out | apply bA_ | apply bN_ | apply bD_) | exact HB.out)) hb); clear HO_5; clear HB; have HO_5 := n0_; have HO179 := n1_; have HB := n2_; clear n0_ n1_ n2_; clear hb ho14; have p12 : 0 ≤ (x6_1 : Int) := of_decide_eq_true (by first | (with_reducible assumption) | assumption); have q12 : (x6_1 : Int) < ((x5_1.length : Int) : Int) := of_decide_eq_true (by first | (with_reducible assumption) | assumption); obtain ⟨go12, co12, eo12, gb12, gl12, cl12, HG12⟩ := Kd.S_form HO_5.out (by omega); (first | cases eo12 | (injection eo12 with ea_ en_ ec_; (first | subst ea_ | (injection ea_ with ea_; subst ea_)); subst ec_; clear en_)); have GB12 := aK gb12; have GG12 := aK HG12; clear gb12 gl12 HG12; obtain ⟨_, ce12, hcl12, hM12, hcc12, hfr12, _, _⟩ := Kd.S_elem HO_5.out [] (x6_1 : Int) p12 q12; obtain ⟨ve12_0, rfl, ge12_0⟩ := hM12; have hx12_0 := hcc12 0 _ rfl; have hf12_0 := hfr12 0; (try simp only [show ((Kd.slice 4 Kd.bool)).sz = 1 from rfl, Nat.mul_one, Nat.add_zero] at hx12_0); (try simp only [show ((Kd.slice 4 Kd.bool)).sz = 1 from rfl, Nat.mul_one, Nat.add_zero] at hf12_0); (try clear hM12); clear hcl12 hcc12 hfr12; replace p12 := eq_true p12; replace q12 := eq_true q12; have n_ := aK (Kd.S_mono (ok' := (fun k_ => some k_ ≠ (v178 : Value).ownBlock)) HO_5.out (fun k_ hk => hk.2)); clear HO_5; have HO_5 := n_; clear n_; have HX15 := aK (show Kd.S (Kd.slice 4 Kd.bool) 52 w13 w.heap.size (fun k_ => ((fun _ => True)) k_ ∧ ¬ ((fun k_ => some k_ = (v178 : Value).ownBlock)) k_) (.slice (some ⟨go12, 0, none⟩) x5_1.length co12) x5_1 from (by (with_reducible repeat (first | apply Kd.S_alloc | apply Kd.S_drewN | apply Kd.S_drew)); exact Kd.S_mono HO_5.out (fun k_ hk => ⟨trivial, fun e_ => hk e_⟩))); obtain ⟨oki15, ce15, hcl15, hM15, hcc15, hfr15, hoki15, hH15⟩ := Kd.S_elem HX15.out [] (x6_1 : Int) (of_decide_eq_true (by first | (with_reducible assumption) | assumption)) (by have h_ : (x6_1 : Int) < ((x5_1.length : Int) : Int) := of_decide_eq_true (by first | (with_reducible assumption) | assumption); first | exact h_ | (have e_ := (Kd.S_reads' HO_5.out).1; omega) | simpa using h_); obtain ⟨ve15_0, rfl, ge15_0⟩ := hM15; have HP15 := Kd.S_seg hH15 (of_decide_eq_true (by first | (with_reducible assumption) | assumption)) (by have h_ : (x6_1 : Int) < ((x5_1.length : Int) : Int) := of_decide_eq_true (by first | (with_reducible assumption) | assumption); first | exact h_ | (have e_ := (Kd.S_reads' HO_5.out).1; omega) | simpa using h_) (seg := [v178]) (j := 0) (show 1 ≤ 1 from by decide) (x' := y177) (Kd.M_row (Kd.R_mono (Kd.R_tight rfl (Kd.R_mono (ok' := fun k_ => ((fun _ => True)) k_ ∧ k_ ≠ go12) (Kd.R_apart' (HO179.out) (Kd.S_typed HO_5.out) (by decide)) (fun k_ hk => ⟨trivial, fun e_ => (hk.2) (by rw [e_]; rfl)⟩))) (fun _ h_ => Or.inr (h_)))) (fun _ hk => hk) (fun k_ hk_ => ((Kd.R_mono (ok' := fun k_ => ((fun _ => True)) k_ ∧ k_ ≠ go12) (Kd.R_apart' (HO179.out) (Kd.S_typed HO_5.out) (by decide)) (fun k_ hk => ⟨trivial, fun e_ => (hk.2) (by rw [e_]; rfl)⟩))).1 k_ hk_.symm); have hx15_0 := hcc15 0 _ rfl; (try simp only [show ((Kd.slice 4 Kd.bool)).sz = 1 from rfl, Nat.mul_one, Nat.add_zero] at hx15_0); have hf15_0 := hfr15 0; (try simp only [show ((Kd.slice 4 Kd.bool)).sz = 1 from rfl, Nat.mul_one, Nat.add_zero] at hf15_0); (try clear hM15); clear hcl15 hcc15 hfr15 hoki15 hH15; (try simp only [show ((Kd.slice 4 Kd.bool)).sz = 1 from rfl, Nat.mul_one, Nat.add_zero] at HP15)) | ((with_reducible refine gate_store (t := 52) (p := 22) rfl ?_); refine store_event (t := 52) (p := 22) (v := ?vo_w16) (w1 := (w13.setCell ⟨go12, (x6_1 : Int).toNat, none⟩ (v178))) ?hg ?ho ?hn ?hr ?_; (case ho => rfl); (case hg => rfl); (case hn => rfl); (case hr => (obtain ⟨_, _, ev_⟩ := Kd.R_slice HO179.out; subst ev_; first | (go_simp; done) | (go_simp; rfl))); intro w16 hw; have hg : w13.grownBy w16 (some go12) := (by rw [hw]; exact HP15.2); have hp_ : Kd.S (Kd.slice 4 Kd.bool) 52 w16 w.heap.size (fun _ => True) (.slice (some ⟨go12, 0, none⟩) x5_1.length co12) y180 := (by rw [hw, Ny180.out]; exact HP15.1); clear HP15; have n0_ := aK (hp_); have n1_ := aK ((by rw [hw]; exact below_set (HB.out) GB12.out : Below w.heap.size w w16)); clear HO_5; clear HB; clear HO179; have HO_5 := n0_; have HB := n1_; clear n0_ n1_; clear hg hw hp_))
          go_roundg k1
          case measure => have := HK1.out; omega
          case rel => exact ⟨(y180), (wrap64 (x6_1 + 1)), (by first | rfl | (simp; done) | (simp [*]; done)), H', ⟨by have := HK1.out; omega⟩, ⟨by (with_reducible repeat (first | apply Kd.S_alloc | apply Kd.S_drewN | apply Kd.S_drew)); exact HO_5.out⟩, ⟨by repeat (first | (with_reducible first | exact HB.out | apply bA_ | apply bN_ | apply bD_) | exact HB.out)⟩⟩
         ·rw [if_neg c11] at H
          exact absurd H (by simp)
        ·rw [if_neg c10] at H
         exact absurd H (by simp)
       ·rw [if_neg c9] at H
        exact absurd H (by simp)
      ·rw [if_neg c8] at H
       exact absurd H (by simp)
     ·rw [if_neg c7] at H
      have c7b0 : decide (x6_1 < a0) = false := decide_eq_false c7
      clear c7; have H' := aK H; clear H; go_wp2
      go_loopg [7] k1 (fun kq v7 w' => ∃ (x5_2 : List (List Bool)) (x7_2 : Int), v7 = .int .i64 x7_2 ∧ Aside0 (swarfref29_Depends.l1 kq a0 l1 x5_2 x7_2 = some r) ∧ Aside0 (kq ≤ k1) ∧ Aside0 (Kd.S (Kd.slice 4 Kd.bool) 52 w' w.heap.size (fun _ => True) v175 x5_2) ∧ Aside0 (Below w.heap.size w w'))
      case atStart => exact ⟨(x5_1), (0), (by first | rfl | (simp; done) | (simp [*]; done)), H', ⟨Nat.le_refl _⟩, ⟨by (with_reducible repeat (first | apply Kd.S_alloc | apply Kd.S_drewN | apply Kd.S_drew)); exact HO_5.out⟩, ⟨by repeat (first | (with_reducible first | exact HB.out | apply bA_ | apply bN_ | apply bD_) | exact HB.out)⟩⟩
      case round =>
       clear H'; try clear c1; try clear p1; try clear q1; try clear hx1; try clear p2; try clear c3; try clear c3b0; try clear c3b1; try clear c4; try clear c4b0; try clear c4b1; try clear p6; try clear c7; try clear c7b0; try clear c8; try clear c8b0; try clear c8b1; try clear c9; try clear c9b0; try clear c9b1; try clear c10; try clear c10b0; try clear c11; try clear c11b0; try clear c12; try clear p12
       try clear q12; try clear hx12; try clear hf12; try clear c15; try clear hx15; try clear hf15; try clear hx12_0; try clear hx15_0; try clear p12; try clear p2; try clear q12
       obtain ⟨x5_2, x7_2, rfl, HA, HK2, HO_5, HB⟩ := hrel
       cases gk with
       | zero => exact absurd HA.out (by simp [swarfref29_Depends.l1])
       | succ k2 =>
        have H := HA.out
        clear HA
        simp only [swarfref29_Depends.l1] at H
        by_cases c17 : x7_2 < (l1.length : Int)
        ·rw [if_pos c17] at H
         have c17b0 : decide (x7_2 < (l1.length : Int)) = true := decide_eq_true c17
         clear c17
         by_cases c18 : 0 ≤ x7_2
         ·rw [if_pos c18] at H
          have c18b0 : decide (0 ≤ x7_2) = true := decide_eq_true c18
          clear c18
          by_cases c19 : 0 ≤ ((rd_T47 l1 x7_2).f0)
          ·rw [if_pos c19] at H
           have c19b0 : decide (0 ≤ ((rd_T47 l1 x7_2).f0)) = true := decide_eq_true c19
           clear c19
           by_cases c20 : ((rd_T47 l1 x7_2).f0) < (x5_2.length : Int)
           ·rw [if_pos c20] at H
            have c20b0 : decide (((rd_T47 l1 x7_2).f0) < (x5_2.length : Int)) = true := decide_eq_true c20
            clear c20
            by_cases c21 : 0 ≤ ((rd_T47 l1 x7_2).f1)
            ·rw [if_pos c21] at H
             have c21b0 : decide (0 ≤ ((rd_T47 l1 x7_2).f1)) = true := decide_eq_true c21
             clear c21
             by_cases c22 : ((rd_T47 l1 x7_2).f1) < ((rd_L7 x5_2 ((rd_T47 l1 x7_2).f0)).length : Int)
             ·rw [if_pos c22] at H
              have c22b0 : decide (((rd_T47 l1 x7_2).f1) < ((rd_L7 x5_2 ((rd_T47 l1 x7_2).f0)).length : Int)) = true := decide_eq_true c22
              clear c22
              obtain ⟨y184, hy184⟩ : ∃ y_ : List Bool, y_ = ((rd_L7 x5_2 ((rd_T47 l1 x7_2).f0)).set (((rd_T47 l1 x7_2).f1) : Int).toNat true) := ⟨_, rfl⟩
              replace H : (swarfref29_Depends.l1 k2 a0 l1 (x5_2.set (((rd_T47 l1 x7_2).f0) : Int).toNat y184) (wrap64 (x7_2 + 1))) = some r := by first | (rw [hy184]; with_reducible exact H) | (have H2_ := (Option.bind_some _ _).symm.trans H; rw [hy184]; with_reducible exact H2_) | (have H2_ := (Option.bind_some _ _).symm.trans H; with_reducible exact H2_) | with_reducible exact H | (rw [hy184]; exact H) | exact H
              have Ny184 := aK hy184; clear hy184
              obtain ⟨y186, hy186⟩ : ∃ y_ : List (List Bool), y_ = (x5_2.set (((rd_T47 l1 x7_2).f0) : Int).toNat y184) := ⟨_, rfl⟩
              replace H : (swarfref29_Depends.l1 k2 a0 l1 y186 (wrap64 (x7_2 + 1))) = some r := by first | (rw [hy186]; with_reducible exact H) | (have H2_ := (Option.bind_some _ _).symm.trans H; rw [hy186]; with_reducible exact H2_) | (have H2_ := (Option.bind_some _ _).symm.trans H; with_reducible exact H2_) | with_reducible exact H | (rw [hy186]; exact H) | exact H
              have Ny186 := aK hy186; clear hy186; have H' := aK H; clear H
              try go_wp2
              have n0_ := aK (Kd.S_drew HO_5.out)
              have n1_ := aK (bD_ HB.out)
              clear HO_5; clear HB; have HO_5 := n0_; have HB := n1_; clear n0_ n1_
              have p181 : 0 ≤ (x7_2 : Int) := of_decide_eq_true (by first | (with_reducible assumption) | assumption)
              have q181 : x7_2 < (l1.length : Int) := of_decide_eq_true (by first | (with_reducible assumption) | assumption)
              obtain ⟨ad181, e181, hx181_0, hx181_1⟩ := at_T47 HR1.out x7_2 p181 q181
              have hw181_1 := hx181_1; have hw181_0 := hx181_0; cases e181
              replace hx181_0 := (HB.out.cell (World.block_lt_of_cell? w _ hx181_0)).trans hx181_0
              replace hx181_1 := (HB.out.cell (World.block_lt_of_cell? w _ hx181_1)).trans hx181_1
              replace p181 := eq_true p181; replace q181 := eq_true q181
              obtain ⟨Ao25, co25, eo25⟩ := Kd.S_slice HO_5.out
              (first | subst eo25 | (injection eo25 with f1_ f2_ f3_; have f4_ := f1_.symm; have f5_ := f3_.symm; clear f1_ f2_ f3_; subst f4_; subst f5_))
              have p182 : 0 ≤ (((rd_T47 l1 x7_2).f0) : Int) := of_decide_eq_true (by first | (with_reducible assumption) | assumption)
              have q182 : ((rd_T47 l1 x7_2).f0) < (x5_2.length : Int) := of_decide_eq_true (by first | (with_reducible assumption) | assumption)
              obtain ⟨ad182, A182_0, c182_0, e182, hx182_0, hl182_0, hi182_0⟩ := at_L7 (Kd.S_reads' HO_5.out).2.2 ((rd_T47 l1 x7_2).f0) p182 q182
              cases e182
              obtain ⟨ce182, hce182, hMe182, hcc182⟩ := Kd.S_get HO_5.out [] ((rd_T47 l1 x7_2).f0) p182 (by first | exact q182 | exact of_decide_eq_true (by first | (with_reducible assumption) | assumption) | (have e_ := (Kd.S_reads' HO_5.out).1; omega))
              obtain ⟨ve182_0, rfl, ge182_0⟩ := hMe182
              have hv182_0 := hcc182 0 _ rfl
              rw [Nat.add_zero, show ((Kd.slice 4 Kd.bool)).sz = 1 from rfl, Nat.mul_one] at hv182_0
              replace hv182_0 := Option.some.inj (hv182_0.symm.trans hx182_0)
              rw [hv182_0] at ge182_0
              have HL182_0 := aK (show Kd.R Kd.bool 4 _ _ _ _ (rd_L7 x5_2 ((rd_T47 l1 x7_2).f0)) from ge182_0)
              clear hv182_0 ge182_0; have HX182_0 := aK hx182_0; clear hcc182 hce182; have HR182_0 := aK hi182_0; have HC182_0 := aK hl182_0; clear hi182_0 hl182_0; replace p182 := eq_true p182; replace q182 := eq_true q182
              have p183 : 0 ≤ (x7_2 : Int) := of_decide_eq_true (by first | (with_reducible assumption) | assumption)
              have q183 : x7_2 < (l1.length : Int) := of_decide_eq_true (by first | (with_reducible assumption) | assumption)
              obtain ⟨ad183, e183, hx183_0, hx183_1⟩ := at_T47 HR1.out x7_2 p183 q183
              have hw183_1 := hx183_1; have hw183_0 := hx183_0
              obtain rfl : ad181 = ad183 := (by injection e183)
              replace hx183_0 := (HB.out.cell (World.block_lt_of_cell? w _ hx183_0)).trans hx183_0
              replace hx183_1 := (HB.out.cell (World.block_lt_of_cell? w _ hx183_1)).trans hx183_1
              replace p183 := eq_true p183; replace q183 := eq_true q183
              have p23 : 0 ≤ (((rd_T47 l1 x7_2).f1) : Int) := of_decide_eq_true (by first | (with_reducible assumption) | assumption)
              have q23 : (((rd_T47 l1 x7_2).f1) : Int) < (((rd_L7 x5_2 ((rd_T47 l1 x7_2).f0)).length : Int) : Int) := of_decide_eq_true (by first | (with_reducible assumption) | assumption)
              obtain ⟨go23, co23, eo23, gb23, gl23, cl23, HG23⟩ := Kd.R_form HL182_0.out (by omega)
              (first | cases eo23 | (injection eo23 with ea_ en_ ec_; (first | subst ea_ | (injection ea_ with ea_; subst ea_)); subst ec_; clear en_))
              have GB23 := aK gb23; have GG23 := aK HG23; clear gb23 gl23 HG23
              obtain ⟨hx23_0, hf23_0⟩ := Kd.R_celln false HL182_0.out (((rd_T47 l1 x7_2).f1) : Int) p23 q23
              replace p23 := eq_true p23; replace q23 := eq_true q23
              have hq26 : (((rd_T47 l1 x7_2).f0) : Int) < (x5_2.length : Int) := (by have h_ : (((rd_T47 l1 x7_2).f0) : Int) < ((x5_2.length : Int) : Int) := of_decide_eq_true (by first | (with_reducible assumption) | assumption); first | exact h_ | (have e_ := (Kd.S_reads' HO_5.out).1; omega) | simpa only [List.length_set, List.length_set] using h_)
              obtain ⟨oki26, ce26, hcl26, hM26, hcc26, hok26, hbk26⟩ := Kd.S_borrow HO_5.out [] (((rd_T47 l1 x7_2).f0) : Int) (of_decide_eq_true (by first | (with_reducible assumption) | assumption)) hq26
              obtain ⟨ve26_0, rfl, ge26_0⟩ := hM26
              have hv26 := hcc26 0 _ rfl
              rw [Nat.add_zero, show ((Kd.slice 4 Kd.bool)).sz = 1 from rfl, Nat.mul_one] at hv26
              replace hv26 := Option.some.inj (hv26.symm.trans HX182_0.out)
              subst hv26; clear hcc26 hcl26
              replace ge26_0 := (show Kd.R Kd.bool 4 _ _ _ _ (rd_L7 x5_2 ((rd_T47 l1 x7_2).f0)) from ge26_0)
              have HP26 := Kd.R_putg ge26_0 (((rd_T47 l1 x7_2).f1) : Int) true
              rw [← Ny184.out] at HP26
              have HS26 := hbk26 HP26.2 (fun k_ e_ => by injection e_ with e_; subst e_; exact ge26_0.1 _ rfl) (x' := y184) (Kd.M_row HP26.1)
              rw [← Ny186.out] at HS26; have HQ26 := aK HS26; clear HP26 HS26 hbk26 hok26
              refine start_ (n := 15) (S := fun w' => w'.cell? (ad181.add ((x7_2).toNat * 2)) = some (.int .i64 ((rd_T47 l1 x7_2).f0)) ∧ w'.cell? ⟨(ad181.add ((x7_2).toNat * 2)).block, (ad181.add ((x7_2).toNat * 2)).off + 1, none⟩ = some (.int .i64 ((rd_T47 l1 x7_2).f1)) ∧ w'.cell? (ad182.add (((rd_T47 l1 x7_2).f0)).toNat) = some (.slice (some ⟨go23, 0, none⟩) (rd_L7 x5_2 ((rd_T47 l1 x7_2).f0)).length c182_0) ∧ w'.cell? (ad181.add ((x7_2).toNat * 2)) = some (.int .i64 ((rd_T47 l1 x7_2).f0)) ∧ w'.cell? ⟨(ad181.add ((x7_2).toNat * 2)).block, (ad181.add ((x7_2).toNat * 2)).off + 1, none⟩ = some (.int .i64 ((rd_T47 l1 x7_2).f1))) (ds := [14]) #[false, false, false, false, false, false, false, false, false, false, false, false, false, false, false] (by kernel_rfl) rfl rfl ⟨((HB.out.cell (World.block_lt_of_cell? w _ hw181_0)).trans hw181_0), ((HB.out.cell (World.block_lt_of_cell? w _ hw181_1)).trans hw181_1), hx182_0, ((HB.out.cell (World.block_lt_of_cell? w _ hw183_0)).trans hw183_0), ((HB.out.cell (World.block_lt_of_cell? w _ hw183_1)).trans hw183_1)⟩ (fun hHeld => ?_); refine with_tabW swarfref29_Depends.tab9 swarfref29_Depends.bits9 (fun HT_ HW_ => ?_)
              generalize wr.drew = w24 at HO_5 HB GG23 HL182_0 HQ26 HR182_0 HX182_0 hf23_0 hx181_0 hx181_1 hx182_0 hx183_0 hx183_1 hx23_0 hHeld ⊢
              refine pure_ (i := 0) (N := some 29) (v := ?_) (a' := ?_) #[true, false, false, false, false, false, false, false, false, false, false, false, false, false, false] rfl rfl (any_of HT_.out (by kernel_rfl)) (fun _ _ _ h => h) (Or.inl ⟨by rfl, ?_⟩) ?_ ?_
              rotate_left; ·intro w'; go_simp; with_reducible rfl
              rotate_left; ·simp only [Act.put, sA_, sZ_, sS_, i64_w, i32_w]; rfl
              refine pure_ (i := 1) (N := some 30) (v := ?_) (a' := ?_) #[true, true, false, false, false, false, false, false, false, false, false, false, false, false, false] rfl rfl (any_of HT_.out (by kernel_rfl)) (fun _ _ _ h => h) (Or.inl ⟨by rfl, ?_⟩) ?_ ?_
              rotate_left; ·intro w'; go_simp; with_reducible rfl
              rotate_left; ·simp only [Act.put, sA_, sZ_, sS_, i64_w, i32_w]; rfl
              refine pure_ (i := 2) (N := some 31) (v := ?_) (a' := ?_) #[true, true, true, false, false, false, false, false, false, false, false, false, false, false, false] rfl rfl (any_of HT_.out (by kernel_rfl)) (fun _ _ _ h => h) (Or.inl ⟨by rfl, ?_⟩) ?_ ?_
              rotate_left; ·intro w'; go_simp; with_reducible rfl
              rotate_left; ·simp only [Act.put, sA_, sZ_, sS_, i64_w, i32_w]; rfl
              refine pure_ (i := 3) (N := some 32) (v := ?_) (a' := ?_) #[true, true, true, true, false, false, false, false, false, false, false, false, false, false, false] rfl rfl (any_of HT_.out (by kernel_rfl)) (fun _ _ _ h => h) (Or.inl ⟨by rfl, ?_⟩) ?_ ?_
              rotate_left; ·intro w'; go_simp; with_reducible rfl
              rotate_left; ·simp only [Act.put, sA_, sZ_, sS_, i64_w, i32_w]; rfl
              refine pure_ (i := 4) (N := some 33) (v := ?_) (a' := ?_) #[true, true, true, true, true, false, false, false, false, false, false, false, false, false, false] rfl rfl (any_of HT_.out (by kernel_rfl)) (fun _ _ _ h => h) (Or.inl ⟨by rfl, ?_⟩) ?_ ?_
              rotate_left; ·intro w'; go_simp; with_reducible rfl
              rotate_left; ·simp only [Act.put, sA_, sZ_, sS_, i64_w, i32_w]; rfl
              refine pure_ (i := 8) (N := some 37) (v := ?_) (a' := ?_) #[true, true, true, true, true, false, false, false, true, false, false, false, false, false, false] rfl rfl (any_of HT_.out (by kernel_rfl)) (fun _ _ _ h => h) (Or.inl ⟨by rfl, ?_⟩) ?_ ?_
              rotate_left; ·intro w'; go_simp; with_reducible rfl
              rotate_left; ·simp only [Act.put, sA_, sZ_, sS_, i64_w, i32_w]; rfl
              refine pure_ (i := 9) (N := some 38) (v := ?_) (a' := ?_) #[true, true, true, true, true, false, false, false, true, true, false, false, false, false, false] rfl rfl (any_of HT_.out (by kernel_rfl)) (fun _ _ _ h => h) (Or.inl ⟨by rfl, ?_⟩) ?_ ?_
              rotate_left; ·intro w'; go_simp; with_reducible rfl
              rotate_left; ·simp only [Act.put, sA_, sZ_, sS_, i64_w, i32_w]; rfl
              refine pure_ (i := 10) (N := some 39) (v := ?_) (a' := ?_) #[true, true, true, true, true, false, false, false, true, true, true, false, false, false, false] rfl rfl (any_of HT_.out (by kernel_rfl)) (fun _ _ _ h => h) (Or.inl ⟨by rfl, ?_⟩) ?_ ?_
              rotate_left; ·intro w'; go_simp; with_reducible rfl
              rotate_left; ·simp only [Act.put, sA_, sZ_, sS_, i64_w, i32_w]; rfl
              refine pure_ (i := 11) (N := some 40) (v := ?_) (a' := ?_) #[true, true, true, true, true, false, false, false, true, true, true, true, false, false, false] rfl rfl (any_of HT_.out (by kernel_rfl)) (fun _ _ _ h => h) (Or.inl ⟨by rfl, ?_⟩) ?_ ?_
              rotate_left; ·intro w'; go_simp; with_reducible rfl
              rotate_left; ·simp only [Act.put, sA_, sZ_, sS_, i64_w, i32_w]; rfl
              refine take_ (i := 5) (N := some 34) (v := ?_) (a' := ?_) #[true, true, true, true, true, true, false, false, true, true, true, true, false, false, false] rfl rfl (take_ofW HT_.out HW_.out (by kernel_rfl)) (fun _ _ _ h => h) (Or.inl ⟨by rfl, ?_⟩) hHeld ?_ ?_
              rotate_left
              ·rintro w' ⟨s0, s1, s2, s3, s4⟩; go_simp; with_reducible rfl
              rotate_left; ·simp only [Act.put, sA_, sZ_, sS_, i64_w, i32_w]; rfl
              refine pure_ (i := 6) (N := some 35) (v := ?_) (a' := ?_) #[true, true, true, true, true, true, true, false, true, true, true, true, false, false, false] rfl rfl (any_of HT_.out (by kernel_rfl)) (fun _ _ _ h => h) (Or.inl ⟨by rfl, ?_⟩) ?_ ?_
              rotate_left; ·intro w'; go_simp; with_reducible rfl
              rotate_left; ·simp only [Act.put, sA_, sZ_, sS_, i64_w, i32_w]; rfl
              refine take_ (i := 7) (N := some 36) (v := ?_) (a' := ?_) #[true, true, true, true, true, true, true, true, true, true, true, true, false, false, false] rfl rfl (take_ofW HT_.out HW_.out (by kernel_rfl)) (fun _ _ _ h => h) (Or.inl ⟨by rfl, ?_⟩) hHeld ?_ ?_
              rotate_left
              ·rintro w' ⟨s0, s1, s2, s3, s4⟩; go_simp; with_reducible rfl
              rotate_left; ·simp only [Act.put, sA_, sZ_, sS_, i64_w, i32_w]; rfl
              refine take_ (i := 12) (N := some 41) (v := ?_) (a' := ?_) #[true, true, true, true, true, true, true, true, true, true, true, true, true, false, false] rfl rfl (take_ofW HT_.out HW_.out (by kernel_rfl)) (fun _ _ _ h => h) (Or.inl ⟨by rfl, ?_⟩) hHeld ?_ ?_
              rotate_left
              ·rintro w' ⟨s0, s1, s2, s3, s4⟩; go_simp; with_reducible rfl
              rotate_left; ·simp only [Act.put, sA_, sZ_, sS_, i64_w, i32_w]; rfl
              refine pure_ (i := 13) (N := some 42) (v := ?_) (a' := ?_) #[true, true, true, true, true, true, true, true, true, true, true, true, true, true, false] rfl rfl (any_of HT_.out (by kernel_rfl)) (fun _ _ _ h => h) (Or.inl ⟨by rfl, ?_⟩) ?_ ?_
              rotate_left; ·intro w'; go_simp; with_reducible rfl
              rotate_left; ·simp only [Act.put, sA_, sZ_, sS_, i64_w, i32_w]; rfl
              refine last_ (i := 14) (N := none) #[true, true, true, true, true, true, true, true, true, true, true, true, true, true, true] rfl rfl (one_of HT_.out (by kernel_rfl)) (by decide) (fun K hK => ?_)
              refine skip_ (w1 := ?_) (by rfl) rfl ?_ ?_
              rotate_left; ·go_simp; rfl
              refine hK.out _ _ ?_
              clear hK K
              refine done_ (done_of HT_.out (by kernel_rfl)) ?_
              try go_wp2
              go_roundg k2
              case measure => have := HK1.out; have := HK2.out; omega
              case rel => exact ⟨(y186), (wrap64 (x7_2 + 1)), (by first | rfl | (simp; done) | (simp [*]; done)), H', ⟨by have := HK1.out; have := HK2.out; omega⟩, ⟨by (with_reducible repeat (first | apply Kd.S_alloc | apply Kd.S_drewN | apply Kd.S_drew)); exact HQ26.out⟩, ⟨by repeat (first | (with_reducible first | exact HB.out | apply bA_ | apply bN_ | apply bD_ | refine below_set ?_ GB23.out) | exact HB.out)⟩⟩
             ·rw [if_neg c22] at H
              exact absurd H (by simp)
            ·rw [if_neg c21] at H
             exact absurd H (by simp)
           ·rw [if_neg c20] at H
            exact absurd H (by simp)
          ·rw [if_neg c19] at H
           exact absurd H (by simp)
         ·rw [if_neg c18] at H
          exact absurd H (by simp)
        ·rw [if_neg c17] at H
         have c17b0 : decide (x7_2 < (l1.length : Int)) = false := decide_eq_false c17
         clear c17; have H' := aK H; clear H; go_wp2
         go_loopg [8] k2 (fun kq v8 w' => ∃ (x5_3 : List (List Bool)) (x8_3 : Int), v8 = .int .i64 x8_3 ∧ Aside0 (swarfref29_Depends.l2 kq a0 x5_3 x8_3 = some r) ∧ Aside0 (kq ≤ k2) ∧ Aside0 (Kd.S (Kd.slice 4 Kd.bool) 52 w' w.heap.size (fun _ => True) v175 x5_3) ∧ Aside0 (Below w.heap.size w w'))
         case atStart => exact ⟨(x5_2), (0), (by first | rfl | (simp; done) | (simp [*]; done)), H', ⟨Nat.le_refl _⟩, ⟨by (with_reducible repeat (first | apply Kd.S_alloc | apply Kd.S_drewN | apply Kd.S_drew)); exact HO_5.out⟩, ⟨by repeat (first | (with_reducible first | exact HB.out | apply bA_ | apply bN_ | apply bD_) | exact HB.out)⟩⟩
         case round =>
          clear H'; try clear c1; try clear p1; try clear q1; try clear hx1; try clear c2; try clear p2; try clear q2; try clear hx2; try clear hf2; try clear c3; try clear c3b0; try clear c3b1; try clear c4; try clear c4b0; try clear c4b1; try clear p6; try clear c7; try clear c7b0; try clear c8; try clear c8b0; try clear c8b1; try clear c9; try clear c9b0; try clear c9b1; try clear c10; try clear c10b0
          try clear c11; try clear c11b0; try clear c12; try clear p12; try clear q12; try clear hx12; try clear hf12; try clear c15; try clear hx15; try clear hf15; try clear c17; try clear c17b0; try clear c18; try clear c18b0; try clear p18; try clear q18; try clear hx18; try clear c19; try clear c19b0; try clear c20; try clear c20b0; try clear c21; try clear c21b0; try clear c22; try clear c22b0
          try clear p23; try clear q23; try clear hx23; try clear hf23; try clear c26; try clear q26; try clear hx12_0; try clear hx15_0; try clear hx181_0; try clear hx181_1; try clear hx182_0; try clear hx183_0; try clear hx183_1; try clear hx23_0; try clear p1; try clear p12; try clear p181; try clear p182; try clear p183; try clear p2; try clear p23; try clear p6; try clear q1; try clear q12; try clear q181
          try clear q182; try clear q183; try clear q23
          obtain ⟨x5_3, x8_3, rfl, HA, HK3, HO_5, HB⟩ := hrel
          cases gk with
          | zero => exact absurd HA.out (by simp [swarfref29_Depends.l2])
          | succ k3 =>
           have H := HA.out
           clear HA
           simp only [swarfref29_Depends.l2] at H
           by_cases c28 : x8_3 < a0
           ·rw [if_pos c28] at H
            have c28b0 : decide (x8_3 < a0) = true := decide_eq_true c28
            clear c28; have H' := aK H; clear H; go_wp2
            go_loopg [9] k3 (fun kq v9 w' => ∃ (x5_4 : List (List Bool)) (x9_4 : Int), v9 = .int .i64 x9_4 ∧ Aside0 (swarfref29_Depends.l3 kq a0 x5_4 x8_3 x9_4 = some r) ∧ Aside0 (kq ≤ k3) ∧ Aside0 (Kd.S (Kd.slice 4 Kd.bool) 52 w' w.heap.size (fun _ => True) v175 x5_4) ∧ Aside0 (Below w.heap.size w w'))
            case atStart => exact ⟨(x5_3), (0), (by first | rfl | (simp; done) | (simp [*]; done)), H', ⟨Nat.le_refl _⟩, ⟨by (with_reducible repeat (first | apply Kd.S_alloc | apply Kd.S_drewN | apply Kd.S_drew)); exact HO_5.out⟩, ⟨by repeat (first | (with_reducible first | exact HB.out | apply bA_ | apply bN_ | apply bD_) | exact HB.out)⟩⟩
            case round =>
             clear H'; try clear c1; try clear p1; try clear q1; try clear hx1; try clear c2; try clear p2; try clear q2; try clear hx2; try clear hf2; try clear c3; try clear c3b0; try clear c3b1; try clear c4; try clear c4b0; try clear c4b1; try clear p6; try clear c7; try clear c7b0; try clear c8; try clear c8b0; try clear c8b1; try clear c9; try clear c9b0; try clear c9b1; try clear c10; try clear c10b0
             try clear c11; try clear c11b0; try clear c12; try clear p12; try clear q12; try clear hx12; try clear hf12; try clear c15; try clear hx15; try clear hf15; try clear c17; try clear c17b0; try clear c18; try clear c18b0; try clear p18; try clear q18; try clear hx18; try clear c19; try clear c19b0; try clear c20; try clear c20b0; try clear c21; try clear c21b0; try clear c22; try clear c22b0
             try clear p23; try clear q23; try clear hx23; try clear hf23; try clear c26; try clear q26; try clear c28; try clear c28b0; try clear hx12_0; try clear hx15_0; try clear hx181_0; try clear hx181_1; try clear hx182_0; try clear hx183_0; try clear hx183_1; try clear hx23_0; try clear p1; try clear p12; try clear p18; try clear p181; try clear p182; try clear p183; try clear p2; try clear p23
             try clear p6; try clear q1; try clear q12; try clear q18; try clear q181; try clear q182; try clear q183; try clear q2; try clear q23; try clear q26
             obtain ⟨x5_4, x9_4, rfl, HA, HK4, HO_5, HB⟩ := hrel
             cases gk with
             | zero => exact absurd HA.out (by simp [swarfref29_Depends.l3])
             | succ k4 =>
              have H := HA.out
              clear HA
              simp only [swarfref29_Depends.l3] at H
              by_cases c29 : x9_4 < a0
              ·rw [if_pos c29] at H
               have c29b0 : decide (x9_4 < a0) = true := decide_eq_true c29
               clear c29; have H' := aK H; clear H; go_wp2
               go_loopg [10] k4 (fun kq v10 w' => ∃ (x5_5 : List (List Bool)) (x10_5 : Int), v10 = .int .i64 x10_5 ∧ Aside0 (swarfref29_Depends.l4 kq a0 x5_5 x8_3 x9_4 x10_5 = some r) ∧ Aside0 (kq ≤ k4) ∧ Aside0 (Kd.S (Kd.slice 4 Kd.bool) 52 w' w.heap.size (fun _ => True) v175 x5_5) ∧ Aside0 (Below w.heap.size w w'))
               case atStart => exact ⟨(x5_4), (0), (by first | rfl | (simp; done) | (simp [*]; done)), H', ⟨Nat.le_refl _⟩, ⟨by (with_reducible repeat (first | apply Kd.S_alloc | apply Kd.S_drewN | apply Kd.S_drew)); exact HO_5.out⟩, ⟨by repeat (first | (with_reducible first | exact HB.out | apply bA_ | apply bN_ | apply bD_) | exact HB.out)⟩⟩
               case round =>
                clear H'; try clear c1; try clear p1; try clear q1; try clear hx1; try clear c2; try clear p2; try clear q2; try clear hx2; try clear hf2; try clear c3; try clear c3b0; try clear c3b1; try clear c4; try clear c4b0; try clear c4b1; try clear p6; try clear c7; try clear c7b0; try clear c8; try clear c8b0; try clear c8b1; try clear c9; try clear c9b0; try clear c9b1; try clear c10; try clear c10b0
                try clear c11; try clear c11b0; try clear c12; try clear p12; try clear q12; try clear hx12; try clear hf12; try clear c15; try clear hx15; try clear hf15; try clear c17; try clear c17b0; try clear c18; try clear c18b0; try clear p18; try clear q18; try clear hx18; try clear c19; try clear c19b0; try clear c20; try clear c20b0; try clear c21; try clear c21b0; try clear c22; try clear c22b0
                try clear p23; try clear q23; try clear hx23; try clear hf23; try clear c26; try clear q26; try clear c28; try clear c28b0; try clear c29; try clear c29b0; try clear hx12_0; try clear hx15_0; try clear hx181_0; try clear hx181_1; try clear hx182_0; try clear hx183_0; try clear hx183_1; try clear hx23_0; try clear p1; try clear p12; try clear p18; try clear p181; try clear p182; try clear p183
                try clear p2; try clear p23; try clear p6; try clear q1; try clear q12; try clear q18; try clear q181; try clear q182; try clear q183; try clear q2; try clear q23; try clear q26
                obtain ⟨x5_5, x10_5, rfl, HA, HK5, HO_5, HB⟩ := hrel
                cases gk with
                | zero => exact absurd HA.out (by simp [swarfref29_Depends.l4])
                | succ k5 =>
                 have H := HA.out
                 clear HA
                 simp only [swarfref29_Depends.l4] at H
                 by_cases c30 : x10_5 < a0
                 ·rw [if_pos c30] at H
                  have c30b0 : decide (x10_5 < a0) = true := decide_eq_true c30
                  clear c30
                  by_cases c31 : 0 ≤ x9_4
                  ·rw [if_pos c31] at H
                   have c31b0 : decide (0 ≤ x9_4) = true := decide_eq_true c31
                   clear c31
                   by_cases c32 : x9_4 < (x5_5.length : Int)
                   ·rw [if_pos c32] at H
                    have c32b0 : decide (x9_4 < (x5_5.length : Int)) = true := decide_eq_true c32
                    clear c32
                    by_cases c33 : 0 ≤ x10_5
                    ·rw [if_pos c33] at H
                     have c33b0 : decide (0 ≤ x10_5) = true := decide_eq_true c33
                     clear c33
                     by_cases c34 : x10_5 < ((rd_L7 x5_5 x9_4).length : Int)
                     ·rw [if_pos c34] at H
                      have c34b0 : decide (x10_5 < ((rd_L7 x5_5 x9_4).length : Int)) = true := decide_eq_true c34
                      clear c34
                      obtain ⟨bq35, hbq35⟩ : ∃ b_ : Bool, b_ = (rdOf false (rd_L7 x5_5 x9_4) x10_5) := ⟨_, rfl⟩
                      replace H : (if bq35 = true then (swarfref29_Depends.l4 k5 a0 (x5_5.set (x9_4 : Int).toNat ((rd_L7 x5_5 x9_4).set (x10_5 : Int).toNat true)) x8_3 x9_4 (wrap64 (x10_5 + 1))) else (if 0 ≤ x8_3 then (if x8_3 < ((rd_L7 x5_5 x9_4).length : Int) then (if rdOf false (rd_L7 x5_5 x9_4) x8_3 = true then (if x8_3 < (x5_5.length : Int) then (if x10_5 < ((rd_L7 x5_5 x8_3).length : Int) then (swarfref29_Depends.l4 k5 a0 (x5_5.set (x9_4 : Int).toNat ((rd_L7 x5_5 x9_4).set (x10_5 : Int).toNat (rdOf false (rd_L7 x5_5 x8_3) x10_5))) x8_3 x9_4 (wrap64 (x10_5 + 1))) else (none)) else (none)) else (swarfref29_Depends.l4 k5 a0 (x5_5.set (x9_4 : Int).toNat ((rd_L7 x5_5 x9_4).set (x10_5 : Int).toNat false)) x8_3 x9_4 (wrap64 (x10_5 + 1)))) else (none)) else (none))) = some r := by rw [← hbq35] at H; exact H
                      have Nbq35 := aK hbq35; clear hbq35
                      by_cases c36 : bq35 = true
                      ·subst c36
                       have H1 : (swarfref29_Depends.l4 k5 a0 (x5_5.set (x9_4 : Int).toNat ((rd_L7 x5_5 x9_4).set (x10_5 : Int).toNat true)) x8_3 x9_4 (wrap64 (x10_5 + 1))) = some r := by rw [if_pos rfl] at H; exact H
                       clear H; have H := H1; clear H1
                       obtain ⟨y190, hy190⟩ : ∃ y_ : List Bool, y_ = ((rd_L7 x5_5 x9_4).set (x10_5 : Int).toNat true) := ⟨_, rfl⟩
                       replace H : (swarfref29_Depends.l4 k5 a0 (x5_5.set (x9_4 : Int).toNat y190) x8_3 x9_4 (wrap64 (x10_5 + 1))) = some r := by first | (rw [hy190]; with_reducible exact H) | (have H2_ := (Option.bind_some _ _).symm.trans H; rw [hy190]; with_reducible exact H2_) | (have H2_ := (Option.bind_some _ _).symm.trans H; with_reducible exact H2_) | with_reducible exact H | (rw [hy190]; exact H) | exact H
                       have Ny190 := aK hy190; clear hy190
                       obtain ⟨y192, hy192⟩ : ∃ y_ : List (List Bool), y_ = (x5_5.set (x9_4 : Int).toNat y190) := ⟨_, rfl⟩
                       replace H : (swarfref29_Depends.l4 k5 a0 y192 x8_3 x9_4 (wrap64 (x10_5 + 1))) = some r := by first | (rw [hy192]; with_reducible exact H) | (have H2_ := (Option.bind_some _ _).symm.trans H; rw [hy192]; with_reducible exact H2_) | (have H2_ := (Option.bind_some _ _).symm.trans H; with_reducible exact H2_) | with_reducible exact H | (rw [hy192]; exact H) | exact H
                       have Ny192 := aK hy192; clear hy192; have H' := aK H; clear H
                       try go_wp2
                       have n0_ := aK (Kd.S_drew HO_5.out)
                       have n1_ := aK (bD_ HB.out)
                       clear HO_5; clear HB; have HO_5 := n0_; have HB := n1_; clear n0_ n1_
                       obtain ⟨Ao39, co39, eo39⟩ := Kd.S_slice HO_5.out
                       (first | subst eo39 | (injection eo39 with f1_ f2_ f3_; have f4_ := f1_.symm; have f5_ := f3_.symm; clear f1_ f2_ f3_; subst f4_; subst f5_))
                       have p187 : 0 ≤ (x9_4 : Int) := of_decide_eq_true (by first | (with_reducible assumption) | assumption)
                       have q187 : x9_4 < (x5_5.length : Int) := of_decide_eq_true (by first | (with_reducible assumption) | assumption)
                       obtain ⟨ad187, A187_0, c187_0, e187, hx187_0, hl187_0, hi187_0⟩ := at_L7 (Kd.S_reads' HO_5.out).2.2 x9_4 p187 q187
                       cases e187
                       obtain ⟨ce187, hce187, hMe187, hcc187⟩ := Kd.S_get HO_5.out [] x9_4 p187 (by first | exact q187 | exact of_decide_eq_true (by first | (with_reducible assumption) | assumption) | (have e_ := (Kd.S_reads' HO_5.out).1; omega))
                       obtain ⟨ve187_0, rfl, ge187_0⟩ := hMe187
                       have hv187_0 := hcc187 0 _ rfl
                       rw [Nat.add_zero, show ((Kd.slice 4 Kd.bool)).sz = 1 from rfl, Nat.mul_one] at hv187_0
                       replace hv187_0 := Option.some.inj (hv187_0.symm.trans hx187_0)
                       rw [hv187_0] at ge187_0
                       have HL187_0 := aK (show Kd.R Kd.bool 4 _ _ _ _ (rd_L7 x5_5 x9_4) from ge187_0)
                       clear hv187_0 ge187_0; have HX187_0 := aK hx187_0; clear hcc187 hce187; have HR187_0 := aK hi187_0; have HC187_0 := aK hl187_0; clear hi187_0 hl187_0; replace p187 := eq_true p187; replace q187 := eq_true q187
                       have p188 : 0 ≤ (x9_4 : Int) := of_decide_eq_true (by first | (with_reducible assumption) | assumption)
                       have q188 : x9_4 < (x5_5.length : Int) := of_decide_eq_true (by first | (with_reducible assumption) | assumption)
                       obtain ⟨ad188, A188_0, c188_0, e188, hx188_0, hl188_0, hi188_0⟩ := at_L7 (Kd.S_reads' HO_5.out).2.2 x9_4 p188 q188
                       obtain rfl : ad187 = ad188 := (by injection e188)
                       obtain ⟨ce188, hce188, hMe188, hcc188⟩ := Kd.S_get HO_5.out [] x9_4 p188 (by first | exact q188 | exact of_decide_eq_true (by first | (with_reducible assumption) | assumption) | (have e_ := (Kd.S_reads' HO_5.out).1; omega))
                       obtain ⟨ve188_0, rfl, ge188_0⟩ := hMe188
                       have hv188_0 := hcc188 0 _ rfl
                       rw [Nat.add_zero, show ((Kd.slice 4 Kd.bool)).sz = 1 from rfl, Nat.mul_one] at hv188_0
                       replace hv188_0 := Option.some.inj (hv188_0.symm.trans hx188_0)
                       rw [hv188_0] at ge188_0
                       have HL188_0 := aK (show Kd.R Kd.bool 4 _ _ _ _ (rd_L7 x5_5 x9_4) from ge188_0)
                       clear hv188_0 ge188_0; have HX188_0 := aK hx188_0; clear hcc188 hce188; have HR188_0 := aK hi188_0; have HC188_0 := aK hl188_0; clear hi188_0 hl188_0; replace p188 := eq_true p188; replace q188 := eq_true q188
                       have ea_ := Option.some.inj (hx187_0.symm.trans hx188_0)
                       injection ea_ with ea_ en_ ec_
                       subst ea_; subst ec_; clear en_
                       have p189 : 0 ≤ (x10_5 : Int) := of_decide_eq_true (by first | (with_reducible assumption) | assumption)
                       have q189 : x10_5 < ((rd_L7 x5_5 x9_4).length : Int) := of_decide_eq_true (by first | (with_reducible assumption) | assumption)
                       obtain ⟨ad189, e189, hx189_0⟩ := Kd.at_bool (by repeat (first | (with_reducible exact HR188_0.out) | (with_reducible refine Kd.C_alloc ?_ _) | (with_reducible refine Kd.C_drewN ?_ _) | (with_reducible refine Kd.C_drew ?_) | exact HR188_0.out)) x10_5 p189 q189
                       (try rw [← Nbq35.out] at hx189_0)
                       cases e189; replace p189 := eq_true p189; replace q189 := eq_true q189
                       have p37 : 0 ≤ (x10_5 : Int) := of_decide_eq_true (by first | (with_reducible assumption) | assumption)
                       have q37 : (x10_5 : Int) < (((rd_L7 x5_5 x9_4).length : Int) : Int) := of_decide_eq_true (by first | (with_reducible assumption) | assumption)
                       obtain ⟨go37, co37, eo37, gb37, gl37, cl37, HG37⟩ := Kd.R_form HL187_0.out (by omega)
                       (first | cases eo37 | (injection eo37 with ea_ en_ ec_; (first | subst ea_ | (injection ea_ with ea_; subst ea_)); subst ec_; clear en_))
                       have GB37 := aK gb37; have GG37 := aK HG37; clear gb37 gl37 HG37
                       (first | simp only [add_plain] at hx189_0 | skip)
                       obtain ⟨hx37_0, hf37_0⟩ := Kd.R_celln false HL187_0.out (x10_5 : Int) p37 q37
                       replace p37 := eq_true p37; replace q37 := eq_true q37
                       have hq40 : (x9_4 : Int) < (x5_5.length : Int) := (by have h_ : (x9_4 : Int) < ((x5_5.length : Int) : Int) := of_decide_eq_true (by first | (with_reducible assumption) | assumption); first | exact h_ | (have e_ := (Kd.S_reads' HO_5.out).1; omega) | simpa only [List.length_set, List.length_set] using h_)
                       obtain ⟨oki40, ce40, hcl40, hM40, hcc40, hok40, hbk40⟩ := Kd.S_borrow HO_5.out [] (x9_4 : Int) (of_decide_eq_true (by first | (with_reducible assumption) | assumption)) hq40
                       obtain ⟨ve40_0, rfl, ge40_0⟩ := hM40
                       have hv40 := hcc40 0 _ rfl
                       rw [Nat.add_zero, show ((Kd.slice 4 Kd.bool)).sz = 1 from rfl, Nat.mul_one] at hv40
                       replace hv40 := Option.some.inj (hv40.symm.trans HX187_0.out)
                       subst hv40; clear hcc40 hcl40
                       replace ge40_0 := (show Kd.R Kd.bool 4 _ _ _ _ (rd_L7 x5_5 x9_4) from ge40_0)
                       have HP40 := Kd.R_putg ge40_0 (x10_5 : Int) true
                       rw [← Ny190.out] at HP40
                       have HS40 := hbk40 HP40.2 (fun k_ e_ => by injection e_ with e_; subst e_; exact ge40_0.1 _ rfl) (x' := y190) (Kd.M_row HP40.1)
                       rw [← Ny192.out] at HS40; have HQ40 := aK HS40; clear HP40 HS40 hbk40 hok40
                       refine start_ (n := 32) (S := fun w' => w'.cell? (ad187.add (x9_4).toNat) = some (.slice (some ⟨go37, 0, none⟩) (rd_L7 x5_5 x9_4).length c187_0) ∧ w'.cell? (ad187.add (x9_4).toNat) = some (.slice (some ⟨go37, 0, none⟩) (rd_L7 x5_5 x9_4).length c187_0) ∧ w'.cell? ⟨go37, (x10_5).toNat, none⟩ = some (.bool true)) (ds := [31]) #[false, false, false, false, false, false, false, false, false, false, false, false, false, false, false, false, false, false, false, false, false, false, false, false, false, false, false, false, false, false, false, false] (by kernel_rfl) rfl rfl ⟨hx187_0, hx188_0, hx189_0⟩ (fun hHeld => ?_); refine with_tabW swarfref29_Depends.tab19 swarfref29_Depends.bits19 (fun HT_ HW_ => ?_)
                       generalize wr.drew = w38 at HO_5 HB GG37 HL187_0 HL188_0 HQ40 HR187_0 HR188_0 HX187_0 HX188_0 hf37_0 hx187_0 hx188_0 hx189_0 hx37_0 hHeld ⊢
                       refine pure_ (i := 0) (N := some 58) (v := ?_) (a' := ?_) #[true, false, false, false, false, false, false, false, false, false, false, false, false, false, false, false, false, false, false, false, false, false, false, false, false, false, false, false, false, false, false, false] rfl rfl (any_of HT_.out (by kernel_rfl)) (fun _ _ _ h => h) (Or.inl ⟨by rfl, ?_⟩) ?_ ?_
                       rotate_left; ·intro w'; go_simp; with_reducible rfl
                       rotate_left; ·simp only [Act.put, sA_, sZ_, sS_, i64_w, i32_w]; rfl
                       refine pure_ (i := 1) (N := some 59) (v := ?_) (a' := ?_) #[true, true, false, false, false, false, false, false, false, false, false, false, false, false, false, false, false, false, false, false, false, false, false, false, false, false, false, false, false, false, false, false] rfl rfl (any_of HT_.out (by kernel_rfl)) (fun _ _ _ h => h) (Or.inl ⟨by rfl, ?_⟩) ?_ ?_
                       rotate_left; ·intro w'; go_simp; with_reducible rfl
                       rotate_left; ·simp only [Act.put, sA_, sZ_, sS_, i64_w, i32_w]; rfl
                       refine pure_ (i := 2) (N := some 60) (v := ?_) (a' := ?_) #[true, true, true, false, false, false, false, false, false, false, false, false, false, false, false, false, false, false, false, false, false, false, false, false, false, false, false, false, false, false, false, false] rfl rfl (any_of HT_.out (by kernel_rfl)) (fun _ _ _ h => h) (Or.inl ⟨by rfl, ?_⟩) ?_ ?_
                       rotate_left; ·intro w'; go_simp; with_reducible rfl
                       rotate_left; ·simp only [Act.put, sA_, sZ_, sS_, i64_w, i32_w]; rfl
                       refine pure_ (i := 4) (N := some 62) (v := ?_) (a' := ?_) #[true, true, true, false, true, false, false, false, false, false, false, false, false, false, false, false, false, false, false, false, false, false, false, false, false, false, false, false, false, false, false, false] rfl rfl (any_of HT_.out (by kernel_rfl)) (fun _ _ _ h => h) (Or.inl ⟨by rfl, ?_⟩) ?_ ?_
                       rotate_left; ·intro w'; go_simp; with_reducible rfl
                       rotate_left; ·simp only [Act.put, sA_, sZ_, sS_, i64_w, i32_w]; rfl
                       refine pure_ (i := 5) (N := some 63) (v := ?_) (a' := ?_) #[true, true, true, false, true, true, false, false, false, false, false, false, false, false, false, false, false, false, false, false, false, false, false, false, false, false, false, false, false, false, false, false] rfl rfl (any_of HT_.out (by kernel_rfl)) (fun _ _ _ h => h) (Or.inl ⟨by rfl, ?_⟩) ?_ ?_
                       rotate_left; ·intro w'; go_simp; with_reducible rfl
                       rotate_left; ·simp only [Act.put, sA_, sZ_, sS_, i64_w, i32_w]; rfl
                       refine pure_ (i := 6) (N := some 64) (v := ?_) (a' := ?_) #[true, true, true, false, true, true, true, false, false, false, false, false, false, false, false, false, false, false, false, false, false, false, false, false, false, false, false, false, false, false, false, false] rfl rfl (any_of HT_.out (by kernel_rfl)) (fun _ _ _ h => h) (Or.inl ⟨by rfl, ?_⟩) ?_ ?_
                       rotate_left; ·intro w'; go_simp; with_reducible rfl
                       rotate_left; ·simp only [Act.put, sA_, sZ_, sS_, i64_w, i32_w]; rfl
                       refine pure_ (i := 7) (N := some 65) (v := ?_) (a' := ?_) #[true, true, true, false, true, true, true, true, false, false, false, false, false, false, false, false, false, false, false, false, false, false, false, false, false, false, false, false, false, false, false, false] rfl rfl (any_of HT_.out (by kernel_rfl)) (fun _ _ _ h => h) (Or.inl ⟨by rfl, ?_⟩) ?_ ?_
                       rotate_left; ·intro w'; go_simp; with_reducible rfl
                       rotate_left; ·simp only [Act.put, sA_, sZ_, sS_, i64_w, i32_w]; rfl
                       refine pure_ (i := 9) (N := some 67) (v := ?_) (a' := ?_) #[true, true, true, false, true, true, true, true, false, true, false, false, false, false, false, false, false, false, false, false, false, false, false, false, false, false, false, false, false, false, false, false] rfl rfl (any_of HT_.out (by kernel_rfl)) (fun _ _ _ h => h) (Or.inl ⟨by rfl, ?_⟩) ?_ ?_
                       rotate_left; ·intro w'; go_simp; with_reducible rfl
                       rotate_left; ·simp only [Act.put, sA_, sZ_, sS_, i64_w, i32_w]; rfl
                       refine take_ (i := 3) (N := some 61) (v := ?_) (a' := ?_) #[true, true, true, true, true, true, true, true, false, true, false, false, false, false, false, false, false, false, false, false, false, false, false, false, false, false, false, false, false, false, false, false] rfl rfl (take_ofW HT_.out HW_.out (by kernel_rfl)) (fun _ _ _ h => h) (Or.inl ⟨by rfl, ?_⟩) hHeld ?_ ?_
                       rotate_left
                       ·rintro w' ⟨s0, s1, s2⟩; go_simp; with_reducible rfl
                       rotate_left; ·simp only [Act.put, sA_, sZ_, sS_, i64_w, i32_w]; rfl
                       refine take_ (i := 8) (N := some 66) (v := ?_) (a' := ?_) #[true, true, true, true, true, true, true, true, true, true, false, false, false, false, false, false, false, false, false, false, false, false, false, false, false, false, false, false, false, false, false, false] rfl rfl (take_ofW HT_.out HW_.out (by kernel_rfl)) (fun _ _ _ h => h) (Or.inl ⟨by rfl, ?_⟩) hHeld ?_ ?_
                       rotate_left
                       ·rintro w' ⟨s0, s1, s2⟩; go_simp; with_reducible rfl
                       rotate_left; ·simp only [Act.put, sA_, sZ_, sS_, i64_w, i32_w]; rfl
                       refine pure_ (i := 10) (N := some 68) (v := ?_) (a' := ?_) #[true, true, true, true, true, true, true, true, true, true, true, false, false, false, false, false, false, false, false, false, false, false, false, false, false, false, false, false, false, false, false, false] rfl rfl (any_of HT_.out (by kernel_rfl)) (fun _ _ _ h => h) (Or.inl ⟨by rfl, ?_⟩) ?_ ?_
                       rotate_left; ·intro w'; go_simp; with_reducible rfl
                       rotate_left; ·simp only [Act.put, sA_, sZ_, sS_, i64_w, i32_w]; rfl
                       refine take_ (i := 11) (N := some 69) (v := ?_) (a' := ?_) #[true, true, true, true, true, true, true, true, true, true, true, true, false, false, false, false, false, false, false, false, false, false, false, false, false, false, false, false, false, false, false, false] rfl rfl (take_ofW HT_.out HW_.out (by kernel_rfl)) (fun _ _ _ h => h) (Or.inl ⟨by rfl, ?_⟩) hHeld ?_ ?_
                       rotate_left
                       ·rintro w' ⟨s0, s1, s2⟩; go_simp; with_reducible rfl
                       rotate_left; ·simp only [Act.put, sA_, sZ_, sS_, i64_w, i32_w]; rfl
                       refine pure_ (i := 12) (N := some 70) (v := ?_) (a' := ?_) #[true, true, true, true, true, true, true, true, true, true, true, true, true, false, false, false, false, false, false, false, false, false, false, false, false, false, false, false, false, false, false, false] rfl rfl (any_of HT_.out (by kernel_rfl)) (fun _ _ _ h => h) (Or.inl ⟨by rfl, ?_⟩) ?_ ?_
                       rotate_left; ·intro w'; go_simp; with_reducible rfl
                       rotate_left; ·simp only [Act.put, sA_, sZ_, sS_, i64_w, i32_w]; rfl
                       refine pure_ (i := 13) (N := some 71) (v := undef) (a' := ?_) #[true, true, true, true, true, true, true, true, true, true, true, true, true, true, false, false, false, false, false, false, false, false, false, false, false, false, false, false, false, false, false, false] rfl rfl (any_of HT_.out (by kernel_rfl)) (fun _ _ _ h => h) (Or.inr ⟨by rfl, rfl⟩) ?_ ?_
                       rotate_left; ·simp only [Act.put, sA_, sZ_, sS_, i64_w, i32_w]; rfl
                       refine pure_ (i := 14) (N := some 72) (v := undef) (a' := ?_) #[true, true, true, true, true, true, true, true, true, true, true, true, true, true, true, false, false, false, false, false, false, false, false, false, false, false, false, false, false, false, false, false] rfl rfl (any_of HT_.out (by kernel_rfl)) (fun _ _ _ h => h) (Or.inr ⟨by rfl, rfl⟩) ?_ ?_
                       rotate_left; ·simp only [Act.put, sA_, sZ_, sS_, i64_w, i32_w]; rfl
                       refine pure_ (i := 15) (N := some 73) (v := undef) (a' := ?_) #[true, true, true, true, true, true, true, true, true, true, true, true, true, true, true, true, false, false, false, false, false, false, false, false, false, false, false, false, false, false, false, false] rfl rfl (any_of HT_.out (by kernel_rfl)) (fun _ _ _ h => h) (Or.inr ⟨by rfl, rfl⟩) ?_ ?_
                       rotate_left; ·simp only [Act.put, sA_, sZ_, sS_, i64_w, i32_w]; rfl
                       refine pure_ (i := 16) (N := some 74) (v := undef) (a' := ?_) #[true, true, true, true, true, true, true, true, true, true, true, true, true, true, true, true, true, false, false, false, false, false, false, false, false, false, false, false, false, false, false, false] rfl rfl (any_of HT_.out (by kernel_rfl)) (fun _ _ _ h => h) (Or.inr ⟨by rfl, rfl⟩) ?_ ?_
                       rotate_left; ·simp only [Act.put, sA_, sZ_, sS_, i64_w, i32_w]; rfl
                       refine pure_ (i := 17) (N := some 75) (v := undef) (a' := ?_) #[true, true, true, true, true, true, true, true, true, true, true, true, true, true, true, true, true, true, false, false, false, false, false, false, false, false, false, false, false, false, false, false] rfl rfl (any_of HT_.out (by kernel_rfl)) (fun _ _ _ h => h) (Or.inr ⟨by rfl, rfl⟩) ?_ ?_
                       rotate_left; ·simp only [Act.put, sA_, sZ_, sS_, i64_w, i32_w]; rfl
                       refine pure_ (i := 18) (N := some 76) (v := undef) (a' := ?_) #[true, true, true, true, true, true, true, true, true, true, true, true, true, true, true, true, true, true, true, false, false, false, false, false, false, false, false, false, false, false, false, false] rfl rfl (any_of HT_.out (by kernel_rfl)) (fun _ _ _ h => h) (Or.inr ⟨by rfl, rfl⟩) ?_ ?_
                       rotate_left; ·simp only [Act.put, sA_, sZ_, sS_, i64_w, i32_w]; rfl
                       refine pure_ (i := 19) (N := some 77) (v := undef) (a' := ?_) #[true, true, true, true, true, true, true, true, true, true, true, true, true, true, true, true, true, true, true, true, false, false, false, false, false, false, false, false, false, false, false, false] rfl rfl (any_of HT_.out (by kernel_rfl)) (fun _ _ _ h => h) (Or.inr ⟨by rfl, rfl⟩) ?_ ?_
                       rotate_left; ·simp only [Act.put, sA_, sZ_, sS_, i64_w, i32_w]; rfl
                       refine pure_ (i := 20) (N := some 78) (v := undef) (a' := ?_) #[true, true, true, true, true, true, true, true, true, true, true, true, true, true, true, true, true, true, true, true, true, false, false, false, false, false, false, false, false, false, false, false] rfl rfl (any_of HT_.out (by kernel_rfl)) (fun _ _ _ h => h) (Or.inr ⟨by rfl, rfl⟩) ?_ ?_
                       rotate_left; ·simp only [Act.put, sA_, sZ_, sS_, i64_w, i32_w]; rfl
                       refine pure_ (i := 21) (N := some 79) (v := undef) (a' := ?_) #[true, true, true, true, true, true, true, true, true, true, true, true, true, true, true, true, true, true, true, true, true, true, false, false, false, false, false, false, false, false, false, false] rfl rfl (any_of HT_.out (by kernel_rfl)) (fun _ _ _ h => h) (Or.inr ⟨by rfl, rfl⟩) ?_ ?_
                       rotate_left; ·simp only [Act.put, sA_, sZ_, sS_, i64_w, i32_w]; rfl
                       refine pure_ (i := 22) (N := some 80) (v := undef) (a' := ?_) #[true, true, true, true, true, true, true, true, true, true, true, true, true, true, true, true, true, true, true, true, true, true, true, false, false, false, false, false, false, false, false, false] rfl rfl (any_of HT_.out (by kernel_rfl)) (fun _ _ _ h => h) (Or.inr ⟨by rfl, rfl⟩) ?_ ?_
                       rotate_left; ·simp only [Act.put, sA_, sZ_, sS_, i64_w, i32_w]; rfl
                       refine pure_ (i := 23) (N := some 81) (v := undef) (a' := ?_) #[true, true, true, true, true, true, true, true, true, true, true, true, true, true, true, true, true, true, true, true, true, true, true, true, false, false, false, false, false, false, false, false] rfl rfl (any_of HT_.out (by kernel_rfl)) (fun _ _ _ h => h) (Or.inr ⟨by rfl, rfl⟩) ?_ ?_
                       rotate_left; ·simp only [Act.put, sA_, sZ_, sS_, i64_w, i32_w]; rfl
                       refine pure_ (i := 24) (N := some 82) (v := undef) (a' := ?_) #[true, true, true, true, true, true, true, true, true, true, true, true, true, true, true, true, true, true, true, true, true, true, true, true, true, false, false, false, false, false, false, false] rfl rfl (any_of HT_.out (by kernel_rfl)) (fun _ _ _ h => h) (Or.inr ⟨by rfl, rfl⟩) ?_ ?_
                       rotate_left; ·simp only [Act.put, sA_, sZ_, sS_, i64_w, i32_w]; rfl
                       refine pure_ (i := 25) (N := some 83) (v := undef) (a' := ?_) #[true, true, true, true, true, true, true, true, true, true, true, true, true, true, true, true, true, true, true, true, true, true, true, true, true, true, false, false, false, false, false, false] rfl rfl (any_of HT_.out (by kernel_rfl)) (fun _ _ _ h => h) (Or.inr ⟨by rfl, rfl⟩) ?_ ?_
                       rotate_left; ·simp only [Act.put, sA_, sZ_, sS_, i64_w, i32_w]; rfl
                       refine pure_ (i := 26) (N := some 84) (v := undef) (a' := ?_) #[true, true, true, true, true, true, true, true, true, true, true, true, true, true, true, true, true, true, true, true, true, true, true, true, true, true, true, false, false, false, false, false] rfl rfl (any_of HT_.out (by kernel_rfl)) (fun _ _ _ h => h) (Or.inr ⟨by rfl, rfl⟩) ?_ ?_
                       rotate_left; ·simp only [Act.put, sA_, sZ_, sS_, i64_w, i32_w]; rfl
                       refine pure_ (i := 27) (N := some 85) (v := undef) (a' := ?_) #[true, true, true, true, true, true, true, true, true, true, true, true, true, true, true, true, true, true, true, true, true, true, true, true, true, true, true, true, false, false, false, false] rfl rfl (any_of HT_.out (by kernel_rfl)) (fun _ _ _ h => h) (Or.inr ⟨by rfl, rfl⟩) ?_ ?_
                       rotate_left; ·simp only [Act.put, sA_, sZ_, sS_, i64_w, i32_w]; rfl
                       refine pure_ (i := 28) (N := some 86) (v := undef) (a' := ?_) #[true, true, true, true, true, true, true, true, true, true, true, true, true, true, true, true, true, true, true, true, true, true, true, true, true, true, true, true, true, false, false, false] rfl rfl (any_of HT_.out (by kernel_rfl)) (fun _ _ _ h => h) (Or.inr ⟨by rfl, rfl⟩) ?_ ?_
                       rotate_left; ·simp only [Act.put, sA_, sZ_, sS_, i64_w, i32_w]; rfl
                       refine pure_ (i := 29) (N := some 87) (v := ?_) (a' := ?_) #[true, true, true, true, true, true, true, true, true, true, true, true, true, true, true, true, true, true, true, true, true, true, true, true, true, true, true, true, true, true, false, false] rfl rfl (any_of HT_.out (by kernel_rfl)) (fun _ _ _ h => h) (Or.inl ⟨by rfl, ?_⟩) ?_ ?_
                       rotate_left; ·intro w'; go_simp; with_reducible rfl
                       rotate_left; ·simp only [Act.put, sA_, sZ_, sS_, i64_w, i32_w]; rfl
                       refine pure_ (i := 30) (N := some 88) (v := ?_) (a' := ?_) #[true, true, true, true, true, true, true, true, true, true, true, true, true, true, true, true, true, true, true, true, true, true, true, true, true, true, true, true, true, true, true, false] rfl rfl (any_of HT_.out (by kernel_rfl)) (fun _ _ _ h => h) (Or.inl ⟨by rfl, ?_⟩) ?_ ?_
                       rotate_left; ·intro w'; go_simp; with_reducible rfl
                       rotate_left; ·simp only [Act.put, sA_, sZ_, sS_, i64_w, i32_w]; rfl
                       refine last_ (i := 31) (N := none) #[true, true, true, true, true, true, true, true, true, true, true, true, true, true, true, true, true, true, true, true, true, true, true, true, true, true, true, true, true, true, true, true] rfl rfl (one_of HT_.out (by kernel_rfl)) (by decide) (fun K hK => ?_)
                       refine skip_ (w1 := ?_) (by rfl) rfl ?_ ?_
                       rotate_left; ·go_simp; rfl
                       refine hK.out _ _ ?_
                       clear hK K
                       refine done_ (done_of HT_.out (by kernel_rfl)) ?_
                       try go_wp2
                       go_roundg k5
                       case measure => have := HK1.out; have := HK2.out; have := HK3.out; have := HK4.out; have := HK5.out; omega
                       case rel => exact ⟨(y192), (wrap64 (x10_5 + 1)), (by first | rfl | (simp; done) | (simp [*]; done)), H', ⟨by have := HK1.out; have := HK2.out; have := HK3.out; have := HK4.out; have := HK5.out; omega⟩, ⟨by (with_reducible repeat (first | apply Kd.S_alloc | apply Kd.S_drewN | apply Kd.S_drew)); exact HQ40.out⟩, ⟨by repeat (first | (with_reducible first | exact HB.out | apply bA_ | apply bN_ | apply bD_ | refine below_set ?_ GB37.out) | exact HB.out)⟩⟩
                      ·replace c36 := Bool.eq_false_iff.mpr c36
                       subst c36
                       have H1 : (if 0 ≤ x8_3 then (if x8_3 < ((rd_L7 x5_5 x9_4).length : Int) then (if rdOf false (rd_L7 x5_5 x9_4) x8_3 = true then (if x8_3 < (x5_5.length : Int) then (if x10_5 < ((rd_L7 x5_5 x8_3).length : Int) then (swarfref29_Depends.l4 k5 a0 (x5_5.set (x9_4 : Int).toNat ((rd_L7 x5_5 x9_4).set (x10_5 : Int).toNat (rdOf false (rd_L7 x5_5 x8_3) x10_5))) x8_3 x9_4 (wrap64 (x10_5 + 1))) else (none)) else (none)) else (swarfref29_Depends.l4 k5 a0 (x5_5.set (x9_4 : Int).toNat ((rd_L7 x5_5 x9_4).set (x10_5 : Int).toNat false)) x8_3 x9_4 (wrap64 (x10_5 + 1)))) else (none)) else (none)) = some r := by rw [if_neg (show ¬ (false = true) by decide)] at H; exact H
                       clear H; have H := H1; clear H1
                       by_cases c42 : 0 ≤ x8_3
                       ·rw [if_pos c42] at H
                        have c42b0 : decide (0 ≤ x8_3) = true := decide_eq_true c42
                        clear c42
                        by_cases c43 : x8_3 < ((rd_L7 x5_5 x9_4).length : Int)
                        ·rw [if_pos c43] at H
                         have c43b0 : decide (x8_3 < ((rd_L7 x5_5 x9_4).length : Int)) = true := decide_eq_true c43
                         clear c43
                         obtain ⟨bq44, hbq44⟩ : ∃ b_ : Bool, b_ = (rdOf false (rd_L7 x5_5 x9_4) x8_3) := ⟨_, rfl⟩
                         replace H : (if bq44 = true then (if x8_3 < (x5_5.length : Int) then (if x10_5 < ((rd_L7 x5_5 x8_3).length : Int) then (swarfref29_Depends.l4 k5 a0 (x5_5.set (x9_4 : Int).toNat ((rd_L7 x5_5 x9_4).set (x10_5 : Int).toNat (rdOf false (rd_L7 x5_5 x8_3) x10_5))) x8_3 x9_4 (wrap64 (x10_5 + 1))) else (none)) else (none)) else (swarfref29_Depends.l4 k5 a0 (x5_5.set (x9_4 : Int).toNat ((rd_L7 x5_5 x9_4).set (x10_5 : Int).toNat false)) x8_3 x9_4 (wrap64 (x10_5 + 1)))) = some r := by rw [← hbq44] at H; exact H
                         have Nbq44 := aK hbq44; clear hbq44
                         by_cases c45 : bq44 = true
                         ·subst c45
                          have H1 : (if x8_3 < (x5_5.length : Int) then (if x10_5 < ((rd_L7 x5_5 x8_3).length : Int) then (swarfref29_Depends.l4 k5 a0 (x5_5.set (x9_4 : Int).toNat ((rd_L7 x5_5 x9_4).set (x10_5 : Int).toNat (rdOf false (rd_L7 x5_5 x8_3) x10_5))) x8_3 x9_4 (wrap64 (x10_5 + 1))) else (none)) else (none)) = some r := by rw [if_pos rfl] at H; exact H
                          clear H; have H := H1; clear H1
                          by_cases c46 : x8_3 < (x5_5.length : Int)
                          ·rw [if_pos c46] at H
                           have c46b0 : decide (x8_3 < (x5_5.length : Int)) = true := decide_eq_true c46
                           clear c46
                           by_cases c47 : x10_5 < ((rd_L7 x5_5 x8_3).length : Int)
                           ·rw [if_pos c47] at H
                            have c47b0 : decide (x10_5 < ((rd_L7 x5_5 x8_3).length : Int)) = true := decide_eq_true c47
                            clear c47
                            obtain ⟨y197, hy197⟩ : ∃ y_ : List Bool, y_ = ((rd_L7 x5_5 x9_4).set (x10_5 : Int).toNat (rdOf false (rd_L7 x5_5 x8_3) x10_5)) := ⟨_, rfl⟩
                            replace H : (swarfref29_Depends.l4 k5 a0 (x5_5.set (x9_4 : Int).toNat y197) x8_3 x9_4 (wrap64 (x10_5 + 1))) = some r := by first | (rw [hy197]; with_reducible exact H) | (have H2_ := (Option.bind_some _ _).symm.trans H; rw [hy197]; with_reducible exact H2_) | (have H2_ := (Option.bind_some _ _).symm.trans H; with_reducible exact H2_) | with_reducible exact H | (rw [hy197]; exact H) | exact H
                            have Ny197 := aK hy197; clear hy197
                            obtain ⟨y199, hy199⟩ : ∃ y_ : List (List Bool), y_ = (x5_5.set (x9_4 : Int).toNat y197) := ⟨_, rfl⟩
                            replace H : (swarfref29_Depends.l4 k5 a0 y199 x8_3 x9_4 (wrap64 (x10_5 + 1))) = some r := by first | (rw [hy199]; with_reducible exact H) | (have H2_ := (Option.bind_some _ _).symm.trans H; rw [hy199]; with_reducible exact H2_) | (have H2_ := (Option.bind_some _ _).symm.trans H; with_reducible exact H2_) | with_reducible exact H | (rw [hy199]; exact H) | exact H
                            have Ny199 := aK hy199; clear hy199; have H' := aK H; clear H
                            try go_wp2
                            have n0_ := aK (Kd.S_drew HO_5.out)
                            have n1_ := aK (bD_ HB.out)
                            clear HO_5; clear HB; have HO_5 := n0_; have HB := n1_; clear n0_ n1_
                            obtain ⟨Ao50, co50, eo50⟩ := Kd.S_slice HO_5.out
                            (first | subst eo50 | (injection eo50 with f1_ f2_ f3_; have f4_ := f1_.symm; have f5_ := f3_.symm; clear f1_ f2_ f3_; subst f4_; subst f5_))
                            have p187 : 0 ≤ (x9_4 : Int) := of_decide_eq_true (by first | (with_reducible assumption) | assumption)
                            have q187 : x9_4 < (x5_5.length : Int) := of_decide_eq_true (by first | (with_reducible assumption) | assumption)
                            obtain ⟨ad187, A187_0, c187_0, e187, hx187_0, hl187_0, hi187_0⟩ := at_L7 (Kd.S_reads' HO_5.out).2.2 x9_4 p187 q187
                            cases e187
                            obtain ⟨ce187, hce187, hMe187, hcc187⟩ := Kd.S_get HO_5.out [] x9_4 p187 (by first | exact q187 | exact of_decide_eq_true (by first | (with_reducible assumption) | assumption) | (have e_ := (Kd.S_reads' HO_5.out).1; omega))
                            obtain ⟨ve187_0, rfl, ge187_0⟩ := hMe187
                            have hv187_0 := hcc187 0 _ rfl
                            rw [Nat.add_zero, show ((Kd.slice 4 Kd.bool)).sz = 1 from rfl, Nat.mul_one] at hv187_0
                            replace hv187_0 := Option.some.inj (hv187_0.symm.trans hx187_0)
                            rw [hv187_0] at ge187_0
                            have HL187_0 := aK (show Kd.R Kd.bool 4 _ _ _ _ (rd_L7 x5_5 x9_4) from ge187_0)
                            clear hv187_0 ge187_0; have HX187_0 := aK hx187_0; clear hcc187 hce187; have HR187_0 := aK hi187_0; have HC187_0 := aK hl187_0; clear hi187_0 hl187_0; replace p187 := eq_true p187; replace q187 := eq_true q187
                            have p188 : 0 ≤ (x9_4 : Int) := of_decide_eq_true (by first | (with_reducible assumption) | assumption)
                            have q188 : x9_4 < (x5_5.length : Int) := of_decide_eq_true (by first | (with_reducible assumption) | assumption)
                            obtain ⟨ad188, A188_0, c188_0, e188, hx188_0, hl188_0, hi188_0⟩ := at_L7 (Kd.S_reads' HO_5.out).2.2 x9_4 p188 q188
                            obtain rfl : ad187 = ad188 := (by injection e188)
                            obtain ⟨ce188, hce188, hMe188, hcc188⟩ := Kd.S_get HO_5.out [] x9_4 p188 (by first | exact q188 | exact of_decide_eq_true (by first | (with_reducible assumption) | assumption) | (have e_ := (Kd.S_reads' HO_5.out).1; omega))
                            obtain ⟨ve188_0, rfl, ge188_0⟩ := hMe188
                            have hv188_0 := hcc188 0 _ rfl
                            rw [Nat.add_zero, show ((Kd.slice 4 Kd.bool)).sz = 1 from rfl, Nat.mul_one] at hv188_0
                            replace hv188_0 := Option.some.inj (hv188_0.symm.trans hx188_0)
                            rw [hv188_0] at ge188_0
                            have HL188_0 := aK (show Kd.R Kd.bool 4 _ _ _ _ (rd_L7 x5_5 x9_4) from ge188_0)
                            clear hv188_0 ge188_0; have HX188_0 := aK hx188_0; clear hcc188 hce188; have HR188_0 := aK hi188_0; have HC188_0 := aK hl188_0; clear hi188_0 hl188_0; replace p188 := eq_true p188; replace q188 := eq_true q188
                            have ea_ := Option.some.inj (hx187_0.symm.trans hx188_0)
                            injection ea_ with ea_ en_ ec_
                            subst ea_; subst ec_; clear en_
                            have p189 : 0 ≤ (x10_5 : Int) := of_decide_eq_true (by first | (with_reducible assumption) | assumption)
                            have q189 : x10_5 < ((rd_L7 x5_5 x9_4).length : Int) := of_decide_eq_true (by first | (with_reducible assumption) | assumption)
                            obtain ⟨ad189, e189, hx189_0⟩ := Kd.at_bool (by repeat (first | (with_reducible exact HR188_0.out) | (with_reducible refine Kd.C_alloc ?_ _) | (with_reducible refine Kd.C_drewN ?_ _) | (with_reducible refine Kd.C_drew ?_) | exact HR188_0.out)) x10_5 p189 q189
                            (try rw [← Nbq35.out] at hx189_0)
                            (try rw [← Nbq44.out] at hx189_0)
                            cases e189; replace p189 := eq_true p189; replace q189 := eq_true q189
                            have p193 : 0 ≤ (x9_4 : Int) := of_decide_eq_true (by first | (with_reducible assumption) | assumption)
                            have q193 : x9_4 < (x5_5.length : Int) := of_decide_eq_true (by first | (with_reducible assumption) | assumption)
                            obtain ⟨ad193, A193_0, c193_0, e193, hx193_0, hl193_0, hi193_0⟩ := at_L7 (Kd.S_reads' HO_5.out).2.2 x9_4 p193 q193
                            obtain rfl : ad187 = ad193 := (by injection e193)
                            obtain ⟨ce193, hce193, hMe193, hcc193⟩ := Kd.S_get HO_5.out [] x9_4 p193 (by first | exact q193 | exact of_decide_eq_true (by first | (with_reducible assumption) | assumption) | (have e_ := (Kd.S_reads' HO_5.out).1; omega))
                            obtain ⟨ve193_0, rfl, ge193_0⟩ := hMe193
                            have hv193_0 := hcc193 0 _ rfl
                            rw [Nat.add_zero, show ((Kd.slice 4 Kd.bool)).sz = 1 from rfl, Nat.mul_one] at hv193_0
                            replace hv193_0 := Option.some.inj (hv193_0.symm.trans hx193_0)
                            rw [hv193_0] at ge193_0
                            have HL193_0 := aK (show Kd.R Kd.bool 4 _ _ _ _ (rd_L7 x5_5 x9_4) from ge193_0)
                            clear hv193_0 ge193_0; have HX193_0 := aK hx193_0; clear hcc193 hce193; have HR193_0 := aK hi193_0; have HC193_0 := aK hl193_0; clear hi193_0 hl193_0; replace p193 := eq_true p193; replace q193 := eq_true q193
                            have ea_ := Option.some.inj (hx187_0.symm.trans hx193_0)
                            injection ea_ with ea_ en_ ec_
                            subst ea_; subst ec_; clear en_
                            have p194 : 0 ≤ (x8_3 : Int) := of_decide_eq_true (by first | (with_reducible assumption) | assumption)
                            have q194 : x8_3 < ((rd_L7 x5_5 x9_4).length : Int) := of_decide_eq_true (by first | (with_reducible assumption) | assumption)
                            obtain ⟨ad194, e194, hx194_0⟩ := Kd.at_bool (by repeat (first | (with_reducible exact HR193_0.out) | (with_reducible refine Kd.C_alloc ?_ _) | (with_reducible refine Kd.C_drewN ?_ _) | (with_reducible refine Kd.C_drew ?_) | exact HR193_0.out)) x8_3 p194 q194
                            (try rw [← Nbq35.out] at hx194_0)
                            (try rw [← Nbq44.out] at hx194_0)
                            cases e194; replace p194 := eq_true p194; replace q194 := eq_true q194
                            have p195 : 0 ≤ (x8_3 : Int) := of_decide_eq_true (by first | (with_reducible assumption) | assumption)
                            have q195 : x8_3 < (x5_5.length : Int) := of_decide_eq_true (by first | (with_reducible assumption) | assumption)
                            obtain ⟨ad195, A195_0, c195_0, e195, hx195_0, hl195_0, hi195_0⟩ := at_L7 (Kd.S_reads' HO_5.out).2.2 x8_3 p195 q195
                            obtain rfl : ad187 = ad195 := (by injection e195)
                            obtain ⟨ce195, hce195, hMe195, hcc195⟩ := Kd.S_get HO_5.out [] x8_3 p195 (by first | exact q195 | exact of_decide_eq_true (by first | (with_reducible assumption) | assumption) | (have e_ := (Kd.S_reads' HO_5.out).1; omega))
                            obtain ⟨ve195_0, rfl, ge195_0⟩ := hMe195
                            have hv195_0 := hcc195 0 _ rfl
                            rw [Nat.add_zero, show ((Kd.slice 4 Kd.bool)).sz = 1 from rfl, Nat.mul_one] at hv195_0
                            replace hv195_0 := Option.some.inj (hv195_0.symm.trans hx195_0)
                            rw [hv195_0] at ge195_0
                            have HL195_0 := aK (show Kd.R Kd.bool 4 _ _ _ _ (rd_L7 x5_5 x8_3) from ge195_0)
                            clear hv195_0 ge195_0; have HX195_0 := aK hx195_0; clear hcc195 hce195; have HR195_0 := aK hi195_0; have HC195_0 := aK hl195_0; clear hi195_0 hl195_0; replace p195 := eq_true p195; replace q195 := eq_true q195
                            have p196 : 0 ≤ (x10_5 : Int) := of_decide_eq_true (by first | (with_reducible assumption) | assumption)
                            have q196 : x10_5 < ((rd_L7 x5_5 x8_3).length : Int) := of_decide_eq_true (by first | (with_reducible assumption) | assumption)
                            obtain ⟨ad196, e196, hx196_0⟩ := Kd.at_bool (by repeat (first | (with_reducible exact HR195_0.out) | (with_reducible refine Kd.C_alloc ?_ _) | (with_reducible refine Kd.C_drewN ?_ _) | (with_reducible refine Kd.C_drew ?_) | exact HR195_0.out)) x10_5 p196 q196
                            (try rw [← Nbq35.out] at hx196_0)
                            (try rw [← Nbq44.out] at hx196_0)
                            cases e196; replace p196 := eq_true p196; replace q196 := eq_true q196
                            have p48 : 0 ≤ (x10_5 : Int) := of_decide_eq_true (by first | (with_reducible assumption) | assumption)
                            have q48 : (x10_5 : Int) < (((rd_L7 x5_5 x9_4).length : Int) : Int) := of_decide_eq_true (by first | (with_reducible assumption) | assumption)
                            obtain ⟨go48, co48, eo48, gb48, gl48, cl48, HG48⟩ := Kd.R_form HL187_0.out (by omega)
                            (first | cases eo48 | (injection eo48 with ea_ en_ ec_; (first | subst ea_ | (injection ea_ with ea_; subst ea_)); subst ec_; clear en_))
                            have GB48 := aK gb48; have GG48 := aK HG48; clear gb48 gl48 HG48
                            (first | simp only [add_plain] at hx194_0 | skip)
                            obtain ⟨hx48_0, hf48_0⟩ := Kd.R_celln false HL187_0.out (x10_5 : Int) p48 q48
                            replace p48 := eq_true p48; replace q48 := eq_true q48
                            have hq51 : (x9_4 : Int) < (x5_5.length : Int) := (by have h_ : (x9_4 : Int) < ((x5_5.length : Int) : Int) := of_decide_eq_true (by first | (with_reducible assumption) | assumption); first | exact h_ | (have e_ := (Kd.S_reads' HO_5.out).1; omega) | simpa only [List.length_set, List.length_set] using h_)
                            obtain ⟨oki51, ce51, hcl51, hM51, hcc51, hok51, hbk51⟩ := Kd.S_borrow HO_5.out [] (x9_4 : Int) (of_decide_eq_true (by first | (with_reducible assumption) | assumption)) hq51
                            obtain ⟨ve51_0, rfl, ge51_0⟩ := hM51
                            have hv51 := hcc51 0 _ rfl
                            rw [Nat.add_zero, show ((Kd.slice 4 Kd.bool)).sz = 1 from rfl, Nat.mul_one] at hv51
                            replace hv51 := Option.some.inj (hv51.symm.trans HX187_0.out)
                            subst hv51; clear hcc51 hcl51
                            replace ge51_0 := (show Kd.R Kd.bool 4 _ _ _ _ (rd_L7 x5_5 x9_4) from ge51_0)
                            have HP51 := Kd.R_putg ge51_0 (x10_5 : Int) (rdOf false (rd_L7 x5_5 x8_3) x10_5)
                            rw [← Ny197.out] at HP51
                            have HS51 := hbk51 HP51.2 (fun k_ e_ => by injection e_ with e_; subst e_; exact ge51_0.1 _ rfl) (x' := y197) (Kd.M_row HP51.1)
                            rw [← Ny199.out] at HS51; have HQ51 := aK HS51; clear HP51 HS51 hbk51 hok51
                            (first | simp only [add_plain] at hx189_0 | skip)
                            refine start_ (n := 32) (S := fun w' => w'.cell? (ad187.add (x9_4).toNat) = some (.slice (some ⟨go48, 0, none⟩) (rd_L7 x5_5 x9_4).length c187_0) ∧ w'.cell? (ad187.add (x9_4).toNat) = some (.slice (some ⟨go48, 0, none⟩) (rd_L7 x5_5 x9_4).length c187_0) ∧ w'.cell? ⟨go48, (x10_5).toNat, none⟩ = some (.bool false) ∧ w'.cell? (ad187.add (x9_4).toNat) = some (.slice (some ⟨go48, 0, none⟩) (rd_L7 x5_5 x9_4).length c187_0) ∧ w'.cell? ⟨go48, (x8_3).toNat, none⟩ = some (.bool true) ∧ w'.cell? (ad187.add (x8_3).toNat) = some (.slice (some ad196) (rd_L7 x5_5 x8_3).length c195_0) ∧ w'.cell? (ad196.add (x10_5).toNat) = some (.bool (rdOf false (rd_L7 x5_5 x8_3) x10_5))) (ds := [31]) #[false, false, false, false, false, false, false, false, false, false, false, false, false, false, false, false, false, false, false, false, false, false, false, false, false, false, false, false, false, false, false, false] (by kernel_rfl) rfl rfl ⟨hx187_0, hx188_0, hx189_0, hx193_0, hx194_0, hx195_0, hx196_0⟩ (fun hHeld => ?_); refine with_tabW swarfref29_Depends.tab19 swarfref29_Depends.bits19 (fun HT_ HW_ => ?_)
                            generalize wr.drew = w49 at HO_5 HB GG48 HL187_0 HL188_0 HL193_0 HL195_0 HQ51 HR187_0 HR188_0 HR193_0 HR195_0 HX187_0 HX188_0 HX193_0 HX195_0 hf48_0 hx187_0 hx188_0 hx189_0 hx193_0 hx194_0 hx195_0 hx196_0 hx48_0 hHeld ⊢
                            refine pure_ (i := 0) (N := some 58) (v := ?_) (a' := ?_) #[true, false, false, false, false, false, false, false, false, false, false, false, false, false, false, false, false, false, false, false, false, false, false, false, false, false, false, false, false, false, false, false] rfl rfl (any_of HT_.out (by kernel_rfl)) (fun _ _ _ h => h) (Or.inl ⟨by rfl, ?_⟩) ?_ ?_
                            rotate_left; ·intro w'; go_simp; with_reducible rfl
                            rotate_left; ·simp only [Act.put, sA_, sZ_, sS_, i64_w, i32_w]; rfl
                            refine pure_ (i := 1) (N := some 59) (v := ?_) (a' := ?_) #[true, true, false, false, false, false, false, false, false, false, false, false, false, false, false, false, false, false, false, false, false, false, false, false, false, false, false, false, false, false, false, false] rfl rfl (any_of HT_.out (by kernel_rfl)) (fun _ _ _ h => h) (Or.inl ⟨by rfl, ?_⟩) ?_ ?_
                            rotate_left; ·intro w'; go_simp; with_reducible rfl
                            rotate_left; ·simp only [Act.put, sA_, sZ_, sS_, i64_w, i32_w]; rfl
                            refine pure_ (i := 2) (N := some 60) (v := ?_) (a' := ?_) #[true, true, true, false, false, false, false, false, false, false, false, false, false, false, false, false, false, false, false, false, false, false, false, false, false, false, false, false, false, false, false, false] rfl rfl (any_of HT_.out (by kernel_rfl)) (fun _ _ _ h => h) (Or.inl ⟨by rfl, ?_⟩) ?_ ?_
                            rotate_left; ·intro w'; go_simp; with_reducible rfl
                            rotate_left; ·simp only [Act.put, sA_, sZ_, sS_, i64_w, i32_w]; rfl
                            refine pure_ (i := 4) (N := some 62) (v := ?_) (a' := ?_) #[true, true, true, false, true, false, false, false, false, false, false, false, false, false, false, false, false, false, false, false, false, false, false, false, false, false, false, false, false, false, false, false] rfl rfl (any_of HT_.out (by kernel_rfl)) (fun _ _ _ h => h) (Or.inl ⟨by rfl, ?_⟩) ?_ ?_
                            rotate_left; ·intro w'; go_simp; with_reducible rfl
                            rotate_left; ·simp only [Act.put, sA_, sZ_, sS_, i64_w, i32_w]; rfl
                            refine pure_ (i := 5) (N := some 63) (v := ?_) (a' := ?_) #[true, true, true, false, true, true, false, false, false, false, false, false, false, false, false, false, false, false, false, false, false, false, false, false, false, false, false, false, false, false, false, false] rfl rfl (any_of HT_.out (by kernel_rfl)) (fun _ _ _ h => h) (Or.inl ⟨by rfl, ?_⟩) ?_ ?_
                            rotate_left; ·intro w'; go_simp; with_reducible rfl
                            rotate_left; ·simp only [Act.put, sA_, sZ_, sS_, i64_w, i32_w]; rfl
                            refine pure_ (i := 6) (N := some 64) (v := ?_) (a' := ?_) #[true, true, true, false, true, true, true, false, false, false, false, false, false, false, false, false, false, false, false, false, false, false, false, false, false, false, false, false, false, false, false, false] rfl rfl (any_of HT_.out (by kernel_rfl)) (fun _ _ _ h => h) (Or.inl ⟨by rfl, ?_⟩) ?_ ?_
                            rotate_left; ·intro w'; go_simp; with_reducible rfl
                            rotate_left; ·simp only [Act.put, sA_, sZ_, sS_, i64_w, i32_w]; rfl
                            refine pure_ (i := 7) (N := some 65) (v := ?_) (a' := ?_) #[true, true, true, false, true, true, true, true, false, false, false, false, false, false, false, false, false, false, false, false, false, false, false, false, false, false, false, false, false, false, false, false] rfl rfl (any_of HT_.out (by kernel_rfl)) (fun _ _ _ h => h) (Or.inl ⟨by rfl, ?_⟩) ?_ ?_
                            rotate_left; ·intro w'; go_simp; with_reducible rfl
                            rotate_left; ·simp only [Act.put, sA_, sZ_, sS_, i64_w, i32_w]; rfl
                            refine pure_ (i := 9) (N := some 67) (v := ?_) (a' := ?_) #[true, true, true, false, true, true, true, true, false, true, false, false, false, false, false, false, false, false, false, false, false, false, false, false, false, false, false, false, false, false, false, false] rfl rfl (any_of HT_.out (by kernel_rfl)) (fun _ _ _ h => h) (Or.inl ⟨by rfl, ?_⟩) ?_ ?_
                            rotate_left; ·intro w'; go_simp; with_reducible rfl
                            rotate_left; ·simp only [Act.put, sA_, sZ_, sS_, i64_w, i32_w]; rfl
                            refine take_ (i := 3) (N := some 61) (v := ?_) (a' := ?_) #[true, true, true, true, true, true, true, true, false, true, false, false, false, false, false, false, false, false, false, false, false, false, false, false, false, false, false, false, false, false, false, false] rfl rfl (take_ofW HT_.out HW_.out (by kernel_rfl)) (fun _ _ _ h => h) (Or.inl ⟨by rfl, ?_⟩) hHeld ?_ ?_
                            rotate_left
                            ·rintro w' ⟨s0, s1, s2, s3, s4, s5, s6⟩; go_simp; with_reducible rfl
                            rotate_left; ·simp only [Act.put, sA_, sZ_, sS_, i64_w, i32_w]; rfl
                            refine take_ (i := 8) (N := some 66) (v := ?_) (a' := ?_) #[true, true, true, true, true, true, true, true, true, true, false, false, false, false, false, false, false, false, false, false, false, false, false, false, false, false, false, false, false, false, false, false] rfl rfl (take_ofW HT_.out HW_.out (by kernel_rfl)) (fun _ _ _ h => h) (Or.inl ⟨by rfl, ?_⟩) hHeld ?_ ?_
                            rotate_left
                            ·rintro w' ⟨s0, s1, s2, s3, s4, s5, s6⟩; go_simp; with_reducible rfl
                            rotate_left; ·simp only [Act.put, sA_, sZ_, sS_, i64_w, i32_w]; rfl
                            refine pure_ (i := 10) (N := some 68) (v := ?_) (a' := ?_) #[true, true, true, true, true, true, true, true, true, true, true, false, false, false, false, false, false, false, false, false, false, false, false, false, false, false, false, false, false, false, false, false] rfl rfl (any_of HT_.out (by kernel_rfl)) (fun _ _ _ h => h) (Or.inl ⟨by rfl, ?_⟩) ?_ ?_
                            rotate_left; ·intro w'; go_simp; with_reducible rfl
                            rotate_left; ·simp only [Act.put, sA_, sZ_, sS_, i64_w, i32_w]; rfl
                            refine take_ (i := 11) (N := some 69) (v := ?_) (a' := ?_) #[true, true, true, true, true, true, true, true, true, true, true, true, false, false, false, false, false, false, false, false, false, false, false, false, false, false, false, false, false, false, false, false] rfl rfl (take_ofW HT_.out HW_.out (by kernel_rfl)) (fun _ _ _ h => h) (Or.inl ⟨by rfl, ?_⟩) hHeld ?_ ?_
                            rotate_left
                            ·rintro w' ⟨s0, s1, s2, s3, s4, s5, s6⟩; go_simp; with_reducible rfl
                            rotate_left; ·simp only [Act.put, sA_, sZ_, sS_, i64_w, i32_w]; rfl
                            refine pure_ (i := 12) (N := some 70) (v := ?_) (a' := ?_) #[true, true, true, true, true, true, true, true, true, true, true, true, true, false, false, false, false, false, false, false, false, false, false, false, false, false, false, false, false, false, false, false] rfl rfl (any_of HT_.out (by kernel_rfl)) (fun _ _ _ h => h) (Or.inl ⟨by rfl, ?_⟩) ?_ ?_
                            rotate_left; ·intro w'; go_simp; with_reducible rfl
                            rotate_left; ·simp only [Act.put, sA_, sZ_, sS_, i64_w, i32_w]; rfl
                            refine pure_ (i := 13) (N := some 71) (v := ?_) (a' := ?_) #[true, true, true, true, true, true, true, true, true, true, true, true, true, true, false, false, false, false, false, false, false, false, false, false, false, false, false, false, false, false, false, false] rfl rfl (any_of HT_.out (by kernel_rfl)) (fun _ _ _ h => h) (Or.inl ⟨by rfl, ?_⟩) ?_ ?_
                            rotate_left; ·intro w'; go_simp; with_reducible rfl
                            rotate_left; ·simp only [Act.put, sA_, sZ_, sS_, i64_w, i32_w]; rfl
                            refine pure_ (i := 14) (N := some 72) (v := ?_) (a' := ?_) #[true, true, true, true, true, true, true, true, true, true, true, true, true, true, true, false, false, false, false, false, false, false, false, false, false, false, false, false, false, false, false, false] rfl rfl (any_of HT_.out (by kernel_rfl)) (fun _ _ _ h => h) (Or.inl ⟨by rfl, ?_⟩) ?_ ?_
                            rotate_left; ·intro w'; go_simp; with_reducible rfl
                            rotate_left; ·simp only [Act.put, sA_, sZ_, sS_, i64_w, i32_w]; rfl
                            refine pure_ (i := 15) (N := some 73) (v := ?_) (a' := ?_) #[true, true, true, true, true, true, true, true, true, true, true, true, true, true, true, true, false, false, false, false, false, false, false, false, false, false, false, false, false, false, false, false] rfl rfl (any_of HT_.out (by kernel_rfl)) (fun _ _ _ h => h) (Or.inl ⟨by rfl, ?_⟩) ?_ ?_
                            rotate_left; ·intro w'; go_simp; with_reducible rfl
                            rotate_left; ·simp only [Act.put, sA_, sZ_, sS_, i64_w, i32_w]; rfl
                            refine pure_ (i := 17) (N := some 75) (v := ?_) (a' := ?_) #[true, true, true, true, true, true, true, true, true, true, true, true, true, true, true, true, false, true, false, false, false, false, false, false, false, false, false, false, false, false, false, false] rfl rfl (any_of HT_.out (by kernel_rfl)) (fun _ _ _ h => h) (Or.inl ⟨by rfl, ?_⟩) ?_ ?_
                            rotate_left; ·intro w'; go_simp; with_reducible rfl
                            rotate_left; ·simp only [Act.put, sA_, sZ_, sS_, i64_w, i32_w]; rfl
                            refine take_ (i := 16) (N := some 74) (v := ?_) (a' := ?_) #[true, true, true, true, true, true, true, true, true, true, true, true, true, true, true, true, true, true, false, false, false, false, false, false, false, false, false, false, false, false, false, false] rfl rfl (take_ofW HT_.out HW_.out (by kernel_rfl)) (fun _ _ _ h => h) (Or.inl ⟨by rfl, ?_⟩) hHeld ?_ ?_
                            rotate_left
                            ·rintro w' ⟨s0, s1, s2, s3, s4, s5, s6⟩; go_simp; with_reducible rfl
                            rotate_left; ·simp only [Act.put, sA_, sZ_, sS_, i64_w, i32_w]; rfl
                            refine pure_ (i := 18) (N := some 76) (v := ?_) (a' := ?_) #[true, true, true, true, true, true, true, true, true, true, true, true, true, true, true, true, true, true, true, false, false, false, false, false, false, false, false, false, false, false, false, false] rfl rfl (any_of HT_.out (by kernel_rfl)) (fun _ _ _ h => h) (Or.inl ⟨by rfl, ?_⟩) ?_ ?_
                            rotate_left; ·intro w'; go_simp; with_reducible rfl
                            rotate_left; ·simp only [Act.put, sA_, sZ_, sS_, i64_w, i32_w]; rfl
                            refine take_ (i := 19) (N := some 77) (v := ?_) (a' := ?_) #[true, true, true, true, true, true, true, true, true, true, true, true, true, true, true, true, true, true, true, true, false, false, false, false, false, false, false, false, false, false, false, false] rfl rfl (take_ofW HT_.out HW_.out (by kernel_rfl)) (fun _ _ _ h => h) (Or.inl ⟨by rfl, ?_⟩) hHeld ?_ ?_
                            rotate_left
                            ·rintro w' ⟨s0, s1, s2, s3, s4, s5, s6⟩; go_simp; with_reducible rfl
                            rotate_left; ·simp only [Act.put, sA_, sZ_, sS_, i64_w, i32_w]; rfl
                            refine pure_ (i := 20) (N := some 78) (v := ?_) (a' := ?_) #[true, true, true, true, true, true, true, true, true, true, true, true, true, true, true, true, true, true, true, true, true, false, false, false, false, false, false, false, false, false, false, false] rfl rfl (any_of HT_.out (by kernel_rfl)) (fun _ _ _ h => h) (Or.inl ⟨by rfl, ?_⟩) ?_ ?_
                            rotate_left; ·intro w'; go_simp; with_reducible rfl
                            rotate_left; ·simp only [Act.put, sA_, sZ_, sS_, i64_w, i32_w]; rfl
                            refine pure_ (i := 21) (N := some 79) (v := ?_) (a' := ?_) #[true, true, true, true, true, true, true, true, true, true, true, true, true, true, true, true, true, true, true, true, true, true, false, false, false, false, false, false, false, false, false, false] rfl rfl (any_of HT_.out (by kernel_rfl)) (fun _ _ _ h => h) (Or.inl ⟨by rfl, ?_⟩) ?_ ?_
                            rotate_left; ·intro w'; go_simp; with_reducible rfl
                            rotate_left; ·simp only [Act.put, sA_, sZ_, sS_, i64_w, i32_w]; rfl
                            refine pure_ (i := 22) (N := some 80) (v := ?_) (a' := ?_) #[true, true, true, true, true, true, true, true, true, true, true, true, true, true, true, true, true, true, true, true, true, true, true, false, false, false, false, false, false, false, false, false] rfl rfl (any_of HT_.out (by kernel_rfl)) (fun _ _ _ h => h) (Or.inl ⟨by rfl, ?_⟩) ?_ ?_
                            rotate_left; ·intro w'; go_simp; with_reducible rfl
                            rotate_left; ·simp only [Act.put, sA_, sZ_, sS_, i64_w, i32_w]; rfl
                            refine pure_ (i := 23) (N := some 81) (v := ?_) (a' := ?_) #[true, true, true, true, true, true, true, true, true, true, true, true, true, true, true, true, true, true, true, true, true, true, true, true, false, false, false, false, false, false, false, false] rfl rfl (any_of HT_.out (by kernel_rfl)) (fun _ _ _ h => h) (Or.inl ⟨by rfl, ?_⟩) ?_ ?_
                            rotate_left; ·intro w'; go_simp; with_reducible rfl
                            rotate_left; ·simp only [Act.put, sA_, sZ_, sS_, i64_w, i32_w]; rfl
                            refine pure_ (i := 25) (N := some 83) (v := ?_) (a' := ?_) #[true, true, true, true, true, true, true, true, true, true, true, true, true, true, true, true, true, true, true, true, true, true, true, true, false, true, false, false, false, false, false, false] rfl rfl (any_of HT_.out (by kernel_rfl)) (fun _ _ _ h => h) (Or.inl ⟨by rfl, ?_⟩) ?_ ?_
                            rotate_left; ·intro w'; go_simp; with_reducible rfl
                            rotate_left; ·simp only [Act.put, sA_, sZ_, sS_, i64_w, i32_w]; rfl
                            refine take_ (i := 24) (N := some 82) (v := ?_) (a' := ?_) #[true, true, true, true, true, true, true, true, true, true, true, true, true, true, true, true, true, true, true, true, true, true, true, true, true, true, false, false, false, false, false, false] rfl rfl (take_ofW HT_.out HW_.out (by kernel_rfl)) (fun _ _ _ h => h) (Or.inl ⟨by rfl, ?_⟩) hHeld ?_ ?_
                            rotate_left
                            ·rintro w' ⟨s0, s1, s2, s3, s4, s5, s6⟩; go_simp; with_reducible rfl
                            rotate_left; ·simp only [Act.put, sA_, sZ_, sS_, i64_w, i32_w]; rfl
                            refine pure_ (i := 26) (N := some 84) (v := ?_) (a' := ?_) #[true, true, true, true, true, true, true, true, true, true, true, true, true, true, true, true, true, true, true, true, true, true, true, true, true, true, true, false, false, false, false, false] rfl rfl (any_of HT_.out (by kernel_rfl)) (fun _ _ _ h => h) (Or.inl ⟨by rfl, ?_⟩) ?_ ?_
                            rotate_left; ·intro w'; go_simp; with_reducible rfl
                            rotate_left; ·simp only [Act.put, sA_, sZ_, sS_, i64_w, i32_w]; rfl
                            refine take_ (i := 27) (N := some 85) (v := ?_) (a' := ?_) #[true, true, true, true, true, true, true, true, true, true, true, true, true, true, true, true, true, true, true, true, true, true, true, true, true, true, true, true, false, false, false, false] rfl rfl (take_ofW HT_.out HW_.out (by kernel_rfl)) (fun _ _ _ h => h) (Or.inl ⟨by rfl, ?_⟩) hHeld ?_ ?_
                            rotate_left
                            ·rintro w' ⟨s0, s1, s2, s3, s4, s5, s6⟩; go_simp; with_reducible rfl
                            rotate_left; ·simp only [Act.put, sA_, sZ_, sS_, i64_w, i32_w]; rfl
                            refine pure_ (i := 28) (N := some 86) (v := ?_) (a' := ?_) #[true, true, true, true, true, true, true, true, true, true, true, true, true, true, true, true, true, true, true, true, true, true, true, true, true, true, true, true, true, false, false, false] rfl rfl (any_of HT_.out (by kernel_rfl)) (fun _ _ _ h => h) (Or.inl ⟨by rfl, ?_⟩) ?_ ?_
                            rotate_left; ·intro w'; go_simp; with_reducible rfl
                            rotate_left; ·simp only [Act.put, sA_, sZ_, sS_, i64_w, i32_w]; rfl
                            refine pure_ (i := 29) (N := some 87) (v := ?_) (a' := ?_) #[true, true, true, true, true, true, true, true, true, true, true, true, true, true, true, true, true, true, true, true, true, true, true, true, true, true, true, true, true, true, false, false] rfl rfl (any_of HT_.out (by kernel_rfl)) (fun _ _ _ h => h) (Or.inl ⟨by rfl, ?_⟩) ?_ ?_
                            rotate_left; ·intro w'; go_simp; with_reducible rfl
                            rotate_left; ·simp only [Act.put, sA_, sZ_, sS_, i64_w, i32_w]; rfl
                            refine pure_ (i := 30) (N := some 88) (v := ?_) (a' := ?_) #[true, true, true, true, true, true, true, true, true, true, true, true, true, true, true, true, true, true, true, true, true, true, true, true, true, true, true, true, true, true, true, false] rfl rfl (any_of HT_.out (by kernel_rfl)) (fun _ _ _ h => h) (Or.inl ⟨by rfl, ?_⟩) ?_ ?_
                            rotate_left; ·intro w'; go_simp; with_reducible rfl
                            rotate_left; ·simp only [Act.put, sA_, sZ_, sS_, i64_w, i32_w]; rfl
                            refine last_ (i := 31) (N := none) #[true, true, true, true, true, true, true, true, true, true, true, true, true, true, true, true, true, true, true, true, true, true, true, true, true, true, true, true, true, true, true, true] rfl rfl (one_of HT_.out (by kernel_rfl)) (by decide) (fun K hK => ?_)
                            refine skip_ (w1 := ?_) (by rfl) rfl ?_ ?_
                            rotate_left; ·go_simp; rfl
                            refine hK.out _ _ ?_
                            clear hK K
                            refine done_ (done_of HT_.out (by kernel_rfl)) ?_
                            try go_wp2
                            go_roundg k5
                            case measure => have := HK1.out; have := HK2.out; have := HK3.out; have := HK4.out; have := HK5.out; omega
                            case rel => exact ⟨(y199), (wrap64 (x10_5 + 1)), (by first | rfl | (simp; done) | (simp [*]; done)), H', ⟨by have := HK1.out; have := HK2.out; have := HK3.out; have := HK4.out; have := HK5.out; omega⟩, ⟨by (with_reducible repeat (first | apply Kd.S_alloc | apply Kd.S_drewN | apply Kd.S_drew)); exact HQ51.out⟩, ⟨by repeat (first | (with_reducible first | exact HB.out | apply bA_ | apply bN_ | apply bD_ | refine below_set ?_ GB48.out) | exact HB.out)⟩⟩
                           ·rw [if_neg c47] at H
                            exact absurd H (by simp)
                          ·rw [if_neg c46] at H
                           exact absurd H (by simp)
                         ·replace c45 := Bool.eq_false_iff.mpr c45
                          subst c45
                          have H1 : (swarfref29_Depends.l4 k5 a0 (x5_5.set (x9_4 : Int).toNat ((rd_L7 x5_5 x9_4).set (x10_5 : Int).toNat false)) x8_3 x9_4 (wrap64 (x10_5 + 1))) = some r := by rw [if_neg (show ¬ (false = true) by decide)] at H; exact H
                          clear H; have H := H1; clear H1
                          obtain ⟨y200, hy200⟩ : ∃ y_ : List Bool, y_ = ((rd_L7 x5_5 x9_4).set (x10_5 : Int).toNat false) := ⟨_, rfl⟩
                          replace H : (swarfref29_Depends.l4 k5 a0 (x5_5.set (x9_4 : Int).toNat y200) x8_3 x9_4 (wrap64 (x10_5 + 1))) = some r := by first | (rw [hy200]; with_reducible exact H) | (have H2_ := (Option.bind_some _ _).symm.trans H; rw [hy200]; with_reducible exact H2_) | (have H2_ := (Option.bind_some _ _).symm.trans H; with_reducible exact H2_) | with_reducible exact H | (rw [hy200]; exact H) | exact H
                          have Ny200 := aK hy200; clear hy200
                          obtain ⟨y202, hy202⟩ : ∃ y_ : List (List Bool), y_ = (x5_5.set (x9_4 : Int).toNat y200) := ⟨_, rfl⟩
                          replace H : (swarfref29_Depends.l4 k5 a0 y202 x8_3 x9_4 (wrap64 (x10_5 + 1))) = some r := by first | (rw [hy202]; with_reducible exact H) | (have H2_ := (Option.bind_some _ _).symm.trans H; rw [hy202]; with_reducible exact H2_) | (have H2_ := (Option.bind_some _ _).symm.trans H; with_reducible exact H2_) | with_reducible exact H | (rw [hy202]; exact H) | exact H
                          have Ny202 := aK hy202; clear hy202; have H' := aK H; clear H
                          try go_wp2
                          have n0_ := aK (Kd.S_drew HO_5.out)
                          have n1_ := aK (bD_ HB.out)
                          clear HO_5; clear HB; have HO_5 := n0_; have HB := n1_; clear n0_ n1_
                          obtain ⟨Ao55, co55, eo55⟩ := Kd.S_slice HO_5.out
                          (first | subst eo55 | (injection eo55 with f1_ f2_ f3_; have f4_ := f1_.symm; have f5_ := f3_.symm; clear f1_ f2_ f3_; subst f4_; subst f5_))
                          have p187 : 0 ≤ (x9_4 : Int) := of_decide_eq_true (by first | (with_reducible assumption) | assumption)
                          have q187 : x9_4 < (x5_5.length : Int) := of_decide_eq_true (by first | (with_reducible assumption) | assumption)
                          obtain ⟨ad187, A187_0, c187_0, e187, hx187_0, hl187_0, hi187_0⟩ := at_L7 (Kd.S_reads' HO_5.out).2.2 x9_4 p187 q187
                          cases e187
                          obtain ⟨ce187, hce187, hMe187, hcc187⟩ := Kd.S_get HO_5.out [] x9_4 p187 (by first | exact q187 | exact of_decide_eq_true (by first | (with_reducible assumption) | assumption) | (have e_ := (Kd.S_reads' HO_5.out).1; omega))
                          obtain ⟨ve187_0, rfl, ge187_0⟩ := hMe187
                          have hv187_0 := hcc187 0 _ rfl
                          rw [Nat.add_zero, show ((Kd.slice 4 Kd.bool)).sz = 1 from rfl, Nat.mul_one] at hv187_0
                          replace hv187_0 := Option.some.inj (hv187_0.symm.trans hx187_0)
                          rw [hv187_0] at ge187_0
                          have HL187_0 := aK (show Kd.R Kd.bool 4 _ _ _ _ (rd_L7 x5_5 x9_4) from ge187_0)
                          clear hv187_0 ge187_0; have HX187_0 := aK hx187_0; clear hcc187 hce187; have HR187_0 := aK hi187_0; have HC187_0 := aK hl187_0; clear hi187_0 hl187_0; replace p187 := eq_true p187; replace q187 := eq_true q187
                          have p188 : 0 ≤ (x9_4 : Int) := of_decide_eq_true (by first | (with_reducible assumption) | assumption)
                          have q188 : x9_4 < (x5_5.length : Int) := of_decide_eq_true (by first | (with_reducible assumption) | assumption)
                          obtain ⟨ad188, A188_0, c188_0, e188, hx188_0, hl188_0, hi188_0⟩ := at_L7 (Kd.S_reads' HO_5.out).2.2 x9_4 p188 q188
                          obtain rfl : ad187 = ad188 := (by injection e188)
                          obtain ⟨ce188, hce188, hMe188, hcc188⟩ := Kd.S_get HO_5.out [] x9_4 p188 (by first | exact q188 | exact of_decide_eq_true (by first | (with_reducible assumption) | assumption) | (have e_ := (Kd.S_reads' HO_5.out).1; omega))
                          obtain ⟨ve188_0, rfl, ge188_0⟩ := hMe188
                          have hv188_0 := hcc188 0 _ rfl
                          rw [Nat.add_zero, show ((Kd.slice 4 Kd.bool)).sz = 1 from rfl, Nat.mul_one] at hv188_0
                          replace hv188_0 := Option.some.inj (hv188_0.symm.trans hx188_0)
                          rw [hv188_0] at ge188_0
                          have HL188_0 := aK (show Kd.R Kd.bool 4 _ _ _ _ (rd_L7 x5_5 x9_4) from ge188_0)
                          clear hv188_0 ge188_0; have HX188_0 := aK hx188_0; clear hcc188 hce188; have HR188_0 := aK hi188_0; have HC188_0 := aK hl188_0; clear hi188_0 hl188_0; replace p188 := eq_true p188; replace q188 := eq_true q188
                          have ea_ := Option.some.inj (hx187_0.symm.trans hx188_0)
                          injection ea_ with ea_ en_ ec_
                          subst ea_; subst ec_; clear en_
                          have p189 : 0 ≤ (x10_5 : Int) := of_decide_eq_true (by first | (with_reducible assumption) | assumption)
                          have q189 : x10_5 < ((rd_L7 x5_5 x9_4).length : Int) := of_decide_eq_true (by first | (with_reducible assumption) | assumption)
                          obtain ⟨ad189, e189, hx189_0⟩ := Kd.at_bool (by repeat (first | (with_reducible exact HR188_0.out) | (with_reducible refine Kd.C_alloc ?_ _) | (with_reducible refine Kd.C_drewN ?_ _) | (with_reducible refine Kd.C_drew ?_) | exact HR188_0.out)) x10_5 p189 q189
                          (try rw [← Nbq35.out] at hx189_0)
                          (try rw [← Nbq44.out] at hx189_0)
                          cases e189; replace p189 := eq_true p189; replace q189 := eq_true q189
                          have p193 : 0 ≤ (x9_4 : Int) := of_decide_eq_true (by first | (with_reducible assumption) | assumption)
                          have q193 : x9_4 < (x5_5.length : Int) := of_decide_eq_true (by first | (with_reducible assumption) | assumption)
                          obtain ⟨ad193, A193_0, c193_0, e193, hx193_0, hl193_0, hi193_0⟩ := at_L7 (Kd.S_reads' HO_5.out).2.2 x9_4 p193 q193
                          obtain rfl : ad187 = ad193 := (by injection e193)
                          obtain ⟨ce193, hce193, hMe193, hcc193⟩ := Kd.S_get HO_5.out [] x9_4 p193 (by first | exact q193 | exact of_decide_eq_true (by first | (with_reducible assumption) | assumption) | (have e_ := (Kd.S_reads' HO_5.out).1; omega))
                          obtain ⟨ve193_0, rfl, ge193_0⟩ := hMe193
                          have hv193_0 := hcc193 0 _ rfl
                          rw [Nat.add_zero, show ((Kd.slice 4 Kd.bool)).sz = 1 from rfl, Nat.mul_one] at hv193_0
                          replace hv193_0 := Option.some.inj (hv193_0.symm.trans hx193_0)
                          rw [hv193_0] at ge193_0
                          have HL193_0 := aK (show Kd.R Kd.bool 4 _ _ _ _ (rd_L7 x5_5 x9_4) from ge193_0)
                          clear hv193_0 ge193_0; have HX193_0 := aK hx193_0; clear hcc193 hce193; have HR193_0 := aK hi193_0; have HC193_0 := aK hl193_0; clear hi193_0 hl193_0; replace p193 := eq_true p193; replace q193 := eq_true q193
                          have ea_ := Option.some.inj (hx187_0.symm.trans hx193_0)
                          injection ea_ with ea_ en_ ec_
                          subst ea_; subst ec_; clear en_
                          have p194 : 0 ≤ (x8_3 : Int) := of_decide_eq_true (by first | (with_reducible assumption) | assumption)
                          have q194 : x8_3 < ((rd_L7 x5_5 x9_4).length : Int) := of_decide_eq_true (by first | (with_reducible assumption) | assumption)
                          obtain ⟨ad194, e194, hx194_0⟩ := Kd.at_bool (by repeat (first | (with_reducible exact HR193_0.out) | (with_reducible refine Kd.C_alloc ?_ _) | (with_reducible refine Kd.C_drewN ?_ _) | (with_reducible refine Kd.C_drew ?_) | exact HR193_0.out)) x8_3 p194 q194
                          (try rw [← Nbq35.out] at hx194_0)
                          (try rw [← Nbq44.out] at hx194_0)
                          cases e194; replace p194 := eq_true p194; replace q194 := eq_true q194
                          have p53 : 0 ≤ (x10_5 : Int) := of_decide_eq_true (by first | (with_reducible assumption) | assumption)
                          have q53 : (x10_5 : Int) < (((rd_L7 x5_5 x9_4).length : Int) : Int) := of_decide_eq_true (by first | (with_reducible assumption) | assumption)
                          obtain ⟨go53, co53, eo53, gb53, gl53, cl53, HG53⟩ := Kd.R_form HL187_0.out (by omega)
                          (first | cases eo53 | (injection eo53 with ea_ en_ ec_; (first | subst ea_ | (injection ea_ with ea_; subst ea_)); subst ec_; clear en_))
                          have GB53 := aK gb53; have GG53 := aK HG53; clear gb53 gl53 HG53
                          (first | simp only [add_plain] at hx194_0 | skip)
                          obtain ⟨hx53_0, hf53_0⟩ := Kd.R_celln false HL187_0.out (x10_5 : Int) p53 q53
                          replace p53 := eq_true p53; replace q53 := eq_true q53
                          have hq56 : (x9_4 : Int) < (x5_5.length : Int) := (by have h_ : (x9_4 : Int) < ((x5_5.length : Int) : Int) := of_decide_eq_true (by first | (with_reducible assumption) | assumption); first | exact h_ | (have e_ := (Kd.S_reads' HO_5.out).1; omega) | simpa only [List.length_set, List.length_set] using h_)
                          obtain ⟨oki56, ce56, hcl56, hM56, hcc56, hok56, hbk56⟩ := Kd.S_borrow HO_5.out [] (x9_4 : Int) (of_decide_eq_true (by first | (with_reducible assumption) | assumption)) hq56
                          obtain ⟨ve56_0, rfl, ge56_0⟩ := hM56
                          have hv56 := hcc56 0 _ rfl
                          rw [Nat.add_zero, show ((Kd.slice 4 Kd.bool)).sz = 1 from rfl, Nat.mul_one] at hv56
                          replace hv56 := Option.some.inj (hv56.symm.trans HX187_0.out)
                          subst hv56; clear hcc56 hcl56
                          replace ge56_0 := (show Kd.R Kd.bool 4 _ _ _ _ (rd_L7 x5_5 x9_4) from ge56_0)
                          have HP56 := Kd.R_putg ge56_0 (x10_5 : Int) false
                          rw [← Ny200.out] at HP56
                          have HS56 := hbk56 HP56.2 (fun k_ e_ => by injection e_ with e_; subst e_; exact ge56_0.1 _ rfl) (x' := y200) (Kd.M_row HP56.1)
                          rw [← Ny202.out] at HS56; have HQ56 := aK HS56; clear HP56 HS56 hbk56 hok56
                          (first | simp only [add_plain] at hx189_0 | skip)
                          refine start_ (n := 32) (S := fun w' => w'.cell? (ad187.add (x9_4).toNat) = some (.slice (some ⟨go53, 0, none⟩) (rd_L7 x5_5 x9_4).length c187_0) ∧ w'.cell? (ad187.add (x9_4).toNat) = some (.slice (some ⟨go53, 0, none⟩) (rd_L7 x5_5 x9_4).length c187_0) ∧ w'.cell? ⟨go53, (x10_5).toNat, none⟩ = some (.bool false) ∧ w'.cell? (ad187.add (x9_4).toNat) = some (.slice (some ⟨go53, 0, none⟩) (rd_L7 x5_5 x9_4).length c187_0) ∧ w'.cell? ⟨go53, (x8_3).toNat, none⟩ = some (.bool false)) (ds := [31]) #[false, false, false, false, false, false, false, false, false, false, false, false, false, false, false, false, false, false, false, false, false, false, false, false, false, false, false, false, false, false, false, false] (by kernel_rfl) rfl rfl ⟨hx187_0, hx188_0, hx189_0, hx193_0, hx194_0⟩ (fun hHeld => ?_); refine with_tabW swarfref29_Depends.tab19 swarfref29_Depends.bits19 (fun HT_ HW_ => ?_)
                          generalize wr.drew = w54 at HO_5 HB GG53 HL187_0 HL188_0 HL193_0 HQ56 HR187_0 HR188_0 HR193_0 HX187_0 HX188_0 HX193_0 hf53_0 hx187_0 hx188_0 hx189_0 hx193_0 hx194_0 hx53_0 hHeld ⊢
                          refine pure_ (i := 0) (N := some 58) (v := ?_) (a' := ?_) #[true, false, false, false, false, false, false, false, false, false, false, false, false, false, false, false, false, false, false, false, false, false, false, false, false, false, false, false, false, false, false, false] rfl rfl (any_of HT_.out (by kernel_rfl)) (fun _ _ _ h => h) (Or.inl ⟨by rfl, ?_⟩) ?_ ?_
                          rotate_left; ·intro w'; go_simp; with_reducible rfl
                          rotate_left; ·simp only [Act.put, sA_, sZ_, sS_, i64_w, i32_w]; rfl
                          refine pure_ (i := 1) (N := some 59) (v := ?_) (a' := ?_) #[true, true, false, false, false, false, false, false, false, false, false, false, false, false, false, false, false, false, false, false, false, false, false, false, false, false, false, false, false, false, false, false] rfl rfl (any_of HT_.out (by kernel_rfl)) (fun _ _ _ h => h) (Or.inl ⟨by rfl, ?_⟩) ?_ ?_
                          rotate_left; ·intro w'; go_simp; with_reducible rfl
                          rotate_left; ·simp only [Act.put, sA_, sZ_, sS_, i64_w, i32_w]; rfl
                          refine pure_ (i := 2) (N := some 60) (v := ?_) (a' := ?_) #[true, true, true, false, false, false, false, false, false, false, false, false, false, false, false, false, false, false, false, false, false, false, false, false, false, false, false, false, false, false, false, false] rfl rfl (any_of HT_.out (by kernel_rfl)) (fun _ _ _ h => h) (Or.inl ⟨by rfl, ?_⟩) ?_ ?_
                          rotate_left; ·intro w'; go_simp; with_reducible rfl
                          rotate_left; ·simp only [Act.put, sA_, sZ_, sS_, i64_w, i32_w]; rfl
                          refine pure_ (i := 4) (N := some 62) (v := ?_) (a' := ?_) #[true, true, true, false, true, false, false, false, false, false, false, false, false, false, false, false, false, false, false, false, false, false, false, false, false, false, false, false, false, false, false, false] rfl rfl (any_of HT_.out (by kernel_rfl)) (fun _ _ _ h => h) (Or.inl ⟨by rfl, ?_⟩) ?_ ?_
                          rotate_left; ·intro w'; go_simp; with_reducible rfl
                          rotate_left; ·simp only [Act.put, sA_, sZ_, sS_, i64_w, i32_w]; rfl
                          refine pure_ (i := 5) (N := some 63) (v := ?_) (a' := ?_) #[true, true, true, false, true, true, false, false, false, false, false, false, false, false, false, false, false, false, false, false, false, false, false, false, false, false, false, false, false, false, false, false] rfl rfl (any_of HT_.out (by kernel_rfl)) (fun _ _ _ h => h) (Or.inl ⟨by rfl, ?_⟩) ?_ ?_
                          rotate_left; ·intro w'; go_simp; with_reducible rfl
                          rotate_left; ·simp only [Act.put, sA_, sZ_, sS_, i64_w, i32_w]; rfl
                          refine pure_ (i := 6) (N := some 64) (v := ?_) (a' := ?_) #[true, true, true, false, true, true, true, false, false, false, false, false, false, false, false, false, false, false, false, false, false, false, false, false, false, false, false, false, false, false, false, false] rfl rfl (any_of HT_.out (by kernel_rfl)) (fun _ _ _ h => h) (Or.inl ⟨by rfl, ?_⟩) ?_ ?_
                          rotate_left; ·intro w'; go_simp; with_reducible rfl
                          rotate_left; ·simp only [Act.put, sA_, sZ_, sS_, i64_w, i32_w]; rfl
                          refine pure_ (i := 7) (N := some 65) (v := ?_) (a' := ?_) #[true, true, true, false, true, true, true, true, false, false, false, false, false, false, false, false, false, false, false, false, false, false, false, false, false, false, false, false, false, false, false, false] rfl rfl (any_of HT_.out (by kernel_rfl)) (fun _ _ _ h => h) (Or.inl ⟨by rfl, ?_⟩) ?_ ?_
                          rotate_left; ·intro w'; go_simp; with_reducible rfl
                          rotate_left; ·simp only [Act.put, sA_, sZ_, sS_, i64_w, i32_w]; rfl
                          refine pure_ (i := 9) (N := some 67) (v := ?_) (a' := ?_) #[true, true, true, false, true, true, true, true, false, true, false, false, false, false, false, false, false, false, false, false, false, false, false, false, false, false, false, false, false, false, false, false] rfl rfl (any_of HT_.out (by kernel_rfl)) (fun _ _ _ h => h) (Or.inl ⟨by rfl, ?_⟩) ?_ ?_
                          rotate_left; ·intro w'; go_simp; with_reducible rfl
                          rotate_left; ·simp only [Act.put, sA_, sZ_, sS_, i64_w, i32_w]; rfl
                          refine take_ (i := 3) (N := some 61) (v := ?_) (a' := ?_) #[true, true, true, true, true, true, true, true, false, true, false, false, false, false, false, false, false, false, false, false, false, false, false, false, false, false, false, false, false, false, false, false] rfl rfl (take_ofW HT_.out HW_.out (by kernel_rfl)) (fun _ _ _ h => h) (Or.inl ⟨by rfl, ?_⟩) hHeld ?_ ?_
                          rotate_left
                          ·rintro w' ⟨s0, s1, s2, s3, s4⟩; go_simp; with_reducible rfl
                          rotate_left; ·simp only [Act.put, sA_, sZ_, sS_, i64_w, i32_w]; rfl
                          refine take_ (i := 8) (N := some 66) (v := ?_) (a' := ?_) #[true, true, true, true, true, true, true, true, true, true, false, false, false, false, false, false, false, false, false, false, false, false, false, false, false, false, false, false, false, false, false, false] rfl rfl (take_ofW HT_.out HW_.out (by kernel_rfl)) (fun _ _ _ h => h) (Or.inl ⟨by rfl, ?_⟩) hHeld ?_ ?_
                          rotate_left
                          ·rintro w' ⟨s0, s1, s2, s3, s4⟩; go_simp; with_reducible rfl
                          rotate_left; ·simp only [Act.put, sA_, sZ_, sS_, i64_w, i32_w]; rfl
                          refine pure_ (i := 10) (N := some 68) (v := ?_) (a' := ?_) #[true, true, true, true, true, true, true, true, true, true, true, false, false, false, false, false, false, false, false, false, false, false, false, false, false, false, false, false, false, false, false, false] rfl rfl (any_of HT_.out (by kernel_rfl)) (fun _ _ _ h => h) (Or.inl ⟨by rfl, ?_⟩) ?_ ?_
                          rotate_left; ·intro w'; go_simp; with_reducible rfl
                          rotate_left; ·simp only [Act.put, sA_, sZ_, sS_, i64_w, i32_w]; rfl
                          refine take_ (i := 11) (N := some 69) (v := ?_) (a' := ?_) #[true, true, true, true, true, true, true, true, true, true, true, true, false, false, false, false, false, false, false, false, false, false, false, false, false, false, false, false, false, false, false, false] rfl rfl (take_ofW HT_.out HW_.out (by kernel_rfl)) (fun _ _ _ h => h) (Or.inl ⟨by rfl, ?_⟩) hHeld ?_ ?_
                          rotate_left
                          ·rintro w' ⟨s0, s1, s2, s3, s4⟩; go_simp; with_reducible rfl
                          rotate_left; ·simp only [Act.put, sA_, sZ_, sS_, i64_w, i32_w]; rfl
                          refine pure_ (i := 12) (N := some 70) (v := ?_) (a' := ?_) #[true, true, true, true, true, true, true, true, true, true, true, true, true, false, false, false, false, false, false, false, false, false, false, false, false, false, false, false, false, false, false, false] rfl rfl (any_of HT_.out (by kernel_rfl)) (fun _ _ _ h => h) (Or.inl ⟨by rfl, ?_⟩) ?_ ?_
                          rotate_left; ·intro w'; go_simp; with_reducible rfl
                          rotate_left; ·simp only [Act.put, sA_, sZ_, sS_, i64_w, i32_w]; rfl
                          refine pure_ (i := 13) (N := some 71) (v := ?_) (a' := ?_) #[true, true, true, true, true, true, true, true, true, true, true, true, true, true, false, false, false, false, false, false, false, false, false, false, false, false, false, false, false, false, false, false] rfl rfl (any_of HT_.out (by kernel_rfl)) (fun _ _ _ h => h) (Or.inl ⟨by rfl, ?_⟩) ?_ ?_
                          rotate_left; ·intro w'; go_simp; with_reducible rfl
                          rotate_left; ·simp only [Act.put, sA_, sZ_, sS_, i64_w, i32_w]; rfl
                          refine pure_ (i := 14) (N := some 72) (v := ?_) (a' := ?_) #[true, true, true, true, true, true, true, true, true, true, true, true, true, true, true, false, false, false, false, false, false, false, false, false, false, false, false, false, false, false, false, false] rfl rfl (any_of HT_.out (by kernel_rfl)) (fun _ _ _ h => h) (Or.inl ⟨by rfl, ?_⟩) ?_ ?_
                          rotate_left; ·intro w'; go_simp; with_reducible rfl
                          rotate_left; ·simp only [Act.put, sA_, sZ_, sS_, i64_w, i32_w]; rfl
                          refine pure_ (i := 15) (N := some 73) (v := ?_) (a' := ?_) #[true, true, true, true, true, true, true, true, true, true, true, true, true, true, true, true, false, false, false, false, false, false, false, false, false, false, false, false, false, false, false, false] rfl rfl (any_of HT_.out (by kernel_rfl)) (fun _ _ _ h => h) (Or.inl ⟨by rfl, ?_⟩) ?_ ?_
                          rotate_left; ·intro w'; go_simp; with_reducible rfl
                          rotate_left; ·simp only [Act.put, sA_, sZ_, sS_, i64_w, i32_w]; rfl
                          refine pure_ (i := 17) (N := some 75) (v := ?_) (a' := ?_) #[true, true, true, true, true, true, true, true, true, true, true, true, true, true, true, true, false, true, false, false, false, false, false, false, false, false, false, false, false, false, false, false] rfl rfl (any_of HT_.out (by kernel_rfl)) (fun _ _ _ h => h) (Or.inl ⟨by rfl, ?_⟩) ?_ ?_
                          rotate_left; ·intro w'; go_simp; with_reducible rfl
                          rotate_left; ·simp only [Act.put, sA_, sZ_, sS_, i64_w, i32_w]; rfl
                          refine take_ (i := 16) (N := some 74) (v := ?_) (a' := ?_) #[true, true, true, true, true, true, true, true, true, true, true, true, true, true, true, true, true, true, false, false, false, false, false, false, false, false, false, false, false, false, false, false] rfl rfl (take_ofW HT_.out HW_.out (by kernel_rfl)) (fun _ _ _ h => h) (Or.inl ⟨by rfl, ?_⟩) hHeld ?_ ?_
                          rotate_left
                          ·rintro w' ⟨s0, s1, s2, s3, s4⟩; go_simp; with_reducible rfl
                          rotate_left; ·simp only [Act.put, sA_, sZ_, sS_, i64_w, i32_w]; rfl
                          refine pure_ (i := 18) (N := some 76) (v := ?_) (a' := ?_) #[true, true, true, true, true, true, true, true, true, true, true, true, true, true, true, true, true, true, true, false, false, false, false, false, false, false, false, false, false, false, false, false] rfl rfl (any_of HT_.out (by kernel_rfl)) (fun _ _ _ h => h) (Or.inl ⟨by rfl, ?_⟩) ?_ ?_
                          rotate_left; ·intro w'; go_simp; with_reducible rfl
                          rotate_left; ·simp only [Act.put, sA_, sZ_, sS_, i64_w, i32_w]; rfl
                          refine take_ (i := 19) (N := some 77) (v := ?_) (a' := ?_) #[true, true, true, true, true, true, true, true, true, true, true, true, true, true, true, true, true, true, true, true, false, false, false, false, false, false, false, false, false, false, false, false] rfl rfl (take_ofW HT_.out HW_.out (by kernel_rfl)) (fun _ _ _ h => h) (Or.inl ⟨by rfl, ?_⟩) hHeld ?_ ?_
                          rotate_left
                          ·rintro w' ⟨s0, s1, s2, s3, s4⟩; go_simp; with_reducible rfl
                          rotate_left; ·simp only [Act.put, sA_, sZ_, sS_, i64_w, i32_w]; rfl
                          refine pure_ (i := 20) (N := some 78) (v := ?_) (a' := ?_) #[true, true, true, true, true, true, true, true, true, true, true, true, true, true, true, true, true, true, true, true, true, false, false, false, false, false, false, false, false, false, false, false] rfl rfl (any_of HT_.out (by kernel_rfl)) (fun _ _ _ h => h) (Or.inl ⟨by rfl, ?_⟩) ?_ ?_
                          rotate_left; ·intro w'; go_simp; with_reducible rfl
                          rotate_left; ·simp only [Act.put, sA_, sZ_, sS_, i64_w, i32_w]; rfl
                          refine pure_ (i := 21) (N := some 79) (v := undef) (a' := ?_) #[true, true, true, true, true, true, true, true, true, true, true, true, true, true, true, true, true, true, true, true, true, true, false, false, false, false, false, false, false, false, false, false] rfl rfl (any_of HT_.out (by kernel_rfl)) (fun _ _ _ h => h) (Or.inr ⟨by rfl, rfl⟩) ?_ ?_
                          rotate_left; ·simp only [Act.put, sA_, sZ_, sS_, i64_w, i32_w]; rfl
                          refine pure_ (i := 22) (N := some 80) (v := undef) (a' := ?_) #[true, true, true, true, true, true, true, true, true, true, true, true, true, true, true, true, true, true, true, true, true, true, true, false, false, false, false, false, false, false, false, false] rfl rfl (any_of HT_.out (by kernel_rfl)) (fun _ _ _ h => h) (Or.inr ⟨by rfl, rfl⟩) ?_ ?_
                          rotate_left; ·simp only [Act.put, sA_, sZ_, sS_, i64_w, i32_w]; rfl
                          refine pure_ (i := 23) (N := some 81) (v := undef) (a' := ?_) #[true, true, true, true, true, true, true, true, true, true, true, true, true, true, true, true, true, true, true, true, true, true, true, true, false, false, false, false, false, false, false, false] rfl rfl (any_of HT_.out (by kernel_rfl)) (fun _ _ _ h => h) (Or.inr ⟨by rfl, rfl⟩) ?_ ?_
                          rotate_left; ·simp only [Act.put, sA_, sZ_, sS_, i64_w, i32_w]; rfl
                          refine pure_ (i := 24) (N := some 82) (v := undef) (a' := ?_) #[true, true, true, true, true, true, true, true, true, true, true, true, true, true, true, true, true, true, true, true, true, true, true, true, true, false, false, false, false, false, false, false] rfl rfl (any_of HT_.out (by kernel_rfl)) (fun _ _ _ h => h) (Or.inr ⟨by rfl, rfl⟩) ?_ ?_
                          rotate_left; ·simp only [Act.put, sA_, sZ_, sS_, i64_w, i32_w]; rfl
                          refine pure_ (i := 25) (N := some 83) (v := undef) (a' := ?_) #[true, true, true, true, true, true, true, true, true, true, true, true, true, true, true, true, true, true, true, true, true, true, true, true, true, true, false, false, false, false, false, false] rfl rfl (any_of HT_.out (by kernel_rfl)) (fun _ _ _ h => h) (Or.inr ⟨by rfl, rfl⟩) ?_ ?_
                          rotate_left; ·simp only [Act.put, sA_, sZ_, sS_, i64_w, i32_w]; rfl
                          refine pure_ (i := 26) (N := some 84) (v := undef) (a' := ?_) #[true, true, true, true, true, true, true, true, true, true, true, true, true, true, true, true, true, true, true, true, true, true, true, true, true, true, true, false, false, false, false, false] rfl rfl (any_of HT_.out (by kernel_rfl)) (fun _ _ _ h => h) (Or.inr ⟨by rfl, rfl⟩) ?_ ?_
                          rotate_left; ·simp only [Act.put, sA_, sZ_, sS_, i64_w, i32_w]; rfl
                          refine pure_ (i := 27) (N := some 85) (v := undef) (a' := ?_) #[true, true, true, true, true, true, true, true, true, true, true, true, true, true, true, true, true, true, true, true, true, true, true, true, true, true, true, true, false, false, false, false] rfl rfl (any_of HT_.out (by kernel_rfl)) (fun _ _ _ h => h) (Or.inr ⟨by rfl, rfl⟩) ?_ ?_
                          rotate_left; ·simp only [Act.put, sA_, sZ_, sS_, i64_w, i32_w]; rfl
                          refine pure_ (i := 28) (N := some 86) (v := ?_) (a' := ?_) #[true, true, true, true, true, true, true, true, true, true, true, true, true, true, true, true, true, true, true, true, true, true, true, true, true, true, true, true, true, false, false, false] rfl rfl (any_of HT_.out (by kernel_rfl)) (fun _ _ _ h => h) (Or.inl ⟨by rfl, ?_⟩) ?_ ?_
                          rotate_left; ·intro w'; go_simp; with_reducible rfl
                          rotate_left; ·simp only [Act.put, sA_, sZ_, sS_, i64_w, i32_w]; rfl
                          refine pure_ (i := 29) (N := some 87) (v := ?_) (a' := ?_) #[true, true, true, true, true, true, true, true, true, true, true, true, true, true, true, true, true, true, true, true, true, true, true, true, true, true, true, true, true, true, false, false] rfl rfl (any_of HT_.out (by kernel_rfl)) (fun _ _ _ h => h) (Or.inl ⟨by rfl, ?_⟩) ?_ ?_
                          rotate_left; ·intro w'; go_simp; with_reducible rfl
                          rotate_left; ·simp only [Act.put, sA_, sZ_, sS_, i64_w, i32_w]; rfl
                          refine pure_ (i := 30) (N := some 88) (v := ?_) (a' := ?_) #[true, true, true, true, true, true, true, true, true, true, true, true, true, true, true, true, true, true, true, true, true, true, true, true, true, true, true, true, true, true, true, false] rfl rfl (any_of HT_.out (by kernel_rfl)) (fun _ _ _ h => h) (Or.inl ⟨by rfl, ?_⟩) ?_ ?_
                          rotate_left; ·intro w'; go_simp; with_reducible rfl
                          rotate_left; ·simp only [Act.put, sA_, sZ_, sS_, i64_w, i32_w]; rfl
                          refine last_ (i := 31) (N := none) #[true, true, true, true, true, true, true, true, true, true, true, true, true, true, true, true, true, true, true, true, true, true, true, true, true, true, true, true, true, true, true, true] rfl rfl (one_of HT_.out (by kernel_rfl)) (by decide) (fun K hK => ?_)
                          refine skip_ (w1 := ?_) (by rfl) rfl ?_ ?_
                          rotate_left; ·go_simp; rfl
                          refine hK.out _ _ ?_
                          clear hK K
                          refine done_ (done_of HT_.out (by kernel_rfl)) ?_
                          try go_wp2
                          go_roundg k5
                          case measure => have := HK1.out; have := HK2.out; have := HK3.out; have := HK4.out; have := HK5.out; omega
                          case rel => exact ⟨(y202), (wrap64 (x10_5 + 1)), (by first | rfl | (simp; done) | (simp [*]; done)), H', ⟨by have := HK1.out; have := HK2.out; have := HK3.out; have := HK4.out; have := HK5.out; omega⟩, ⟨by (with_reducible repeat (first | apply Kd.S_alloc | apply Kd.S_drewN | apply Kd.S_drew)); exact HQ56.out⟩, ⟨by repeat (first | (with_reducible first | exact HB.out | apply bA_ | apply bN_ | apply bD_ | refine below_set ?_ GB53.out) | exact HB.out)⟩⟩
                        ·rw [if_neg c43] at H
                         exact absurd H (by simp)
                       ·rw [if_neg c42] at H
                        exact absurd H (by simp)
                     ·rw [if_neg c34] at H
                      exact absurd H (by simp)
                    ·rw [if_neg c33] at H
                     exact absurd H (by simp)
                   ·rw [if_neg c32] at H
                    exact absurd H (by simp)
                  ·rw [if_neg c31] at H
                   exact absurd H (by simp)
                 ·rw [if_neg c30] at H
                  have c30b0 : decide (x10_5 < a0) = false := decide_eq_false c30
                  clear c30; have H' := aK H; clear H; go_wp2
                  go_roundg k5
                  case measure => have := HK1.out; have := HK2.out; have := HK3.out; have := HK4.out; have := HK5.out; omega
                  case rel => exact ⟨(x5_5), (wrap64 (x9_4 + 1)), (by first | rfl | (simp; done) | (simp [*]; done)), H', ⟨by have := HK1.out; have := HK2.out; have := HK3.out; have := HK4.out; have := HK5.out; omega⟩, ⟨by (with_reducible repeat (first | apply Kd.S_alloc | apply Kd.S_drewN | apply Kd.S_drew)); exact HO_5.out⟩, ⟨by repeat (first | (with_reducible first | exact HB.out | apply bA_ | apply bN_ | apply bD_) | exact HB.out)⟩⟩
              ·rw [if_neg c29] at H
               have c29b0 : decide (x9_4 < a0) = false := decide_eq_false c29
               clear c29; have H' := aK H; clear H; go_wp2
               go_roundg k4
               case measure => have := HK1.out; have := HK2.out; have := HK3.out; have := HK4.out; omega
               case rel => exact ⟨(x5_4), (wrap64 (x8_3 + 1)), (by first | rfl | (simp; done) | (simp [*]; done)), H', ⟨by have := HK1.out; have := HK2.out; have := HK3.out; have := HK4.out; omega⟩, ⟨by (with_reducible repeat (first | apply Kd.S_alloc | apply Kd.S_drewN | apply Kd.S_drew)); exact HO_5.out⟩, ⟨by repeat (first | (with_reducible first | exact HB.out | apply bA_ | apply bN_ | apply bD_) | exact HB.out)⟩⟩
           ·rw [if_neg c28] at H
            have c28b0 : decide (x8_3 < a0) = false := decide_eq_false c28
            clear c28; obtain rfl := Option.some.inj H; go_wp2; go_ret
            exact ⟨_, by first | rfl | (simp [errW_none, errW_some] <;> rfl) | (simp [*, errW_none, errW_some] <;> rfl), by (with_reducible repeat (first | apply Kd.S_alloc | apply Kd.S_drewN | apply Kd.S_drew)); exact HO_5.out, by repeat (first | (with_reducible first | exact HB.out | apply bA_ | apply bN_ | apply bD_) | exact HB.out)⟩
  ·rw [if_neg c4] at H
   exact absurd H (by simp)
 ·rw [if_neg c3] at H
  exact absurd H (by simp)

end Go.Proofs.Ytbbkclcfmcjlgaa.P
