import Derived.Test.YtbbkclcfmcjlgaaT7M21

namespace Go.Proofs.Ytbbkclcfmcjlgaa.P
open Go.RowKit Go.Proofs.YtbbkclcfmcjlgaaW.PrintWords Go.Proofs.YtbbkclcfmcjlgaaW.PrintLast Go.Proofs.YtbbkclcfmcjlgaaW.PrintMore
attribute [local go_sem] max2_int min2_int max_two min_two max_three min_three max_four min_four
set_option linter.unusedVariables false
set_option linter.unusedSimpArgs false

def precedence_read.l0 : Nat → List (S47) → Int → Int → List (List Int) → List (List Int) → Option ((List (List Int)) × (List (List Int)))
 | 0, _, _, _, _, _ => none
 | k + 1, x13, x14, x15, x111000, x111001 => if x15 < x14 then (if 0 ≤ x15 then (if x15 < (x13.length : Int) then (if 0 ≤ ((rd_T47 x13 x15).f0) then (if ((rd_T47 x13 x15).f0) < (x111001.length : Int) then (if (rd_L3 x111001 ((rd_T47 x13 x15).f0)).length < 17592186044416 then (if 0 ≤ ((rd_T47 x13 x15).f1) then (if ((rd_T47 x13 x15).f1) < (x111000.length : Int) then (if (rd_L3 x111000 ((rd_T47 x13 x15).f1)).length < 17592186044416 then (precedence_read.l0 k x13 x14 (wrap64 (x15 + 1)) (x111000.set (((rd_T47 x13 x15).f1) : Int).toNat ((rd_L3 x111000 ((rd_T47 x13 x15).f1)) ++ [(rd_T47 x13 x15).f0])) (x111001.set (((rd_T47 x13 x15).f0) : Int).toNat ((rd_L3 x111001 ((rd_T47 x13 x15).f0)) ++ [(rd_T47 x13 x15).f1]))) else (none)) else (none)) else (none)) else (none)) else (none)) else (none)) else (none)) else (none)) else (some (x111000, x111001))
def precedence_read.f (k : Nat) (a0 : Int) (l1 : List (S47)) : Option ((List (List Int)) × (List (List Int))) := if 0 ≤ a0 then (if (a0 : Int).toNat ≤ 11728124029610 then (precedence_read.l0 k l1 (l1.length : Int) 0 (List.replicate (a0 : Int).toNat []) (List.replicate (a0 : Int).toNat [])) else (none)) else (none)
theorem precedence_read.mono_l : ∀ k, (∀ y0 y1 y2 y3 y4, LeO (precedence_read.l0 k y0 y1 y2 y3 y4) (precedence_read.l0 (k + 1) y0 y1 y2 y3 y4))
 | 0 => fun _ _ _ _ _ r h => by simp [precedence_read.l0] at h
 | k + 1 => by
  have ih0 := precedence_read.mono_l k
  ·intro y0 y1 y2 y3 y4
   unfold precedence_read.l0
   repeat' first
   | (with_reducible exact ih0 _ _ _ _ _)
   | (with_reducible exact LeO.refl _)
   | (with_reducible exact LeO.none _)
   | (with_reducible refine LeO.ite ?_ ?_)
   | (with_reducible refine LeO.bind ?_ (fun _ => ?_))
   | exact ih0 _ _ _ _ _
   | exact LeO.none _
   | refine LeO.ite ?_ ?_
   | refine LeO.bind ?_ (fun _ => ?_)
theorem precedence_read.mono : ∀ a0 a1 k, LeO (precedence_read.f k a0 a1) (precedence_read.f (k + 1) a0 a1) := by
 intro a0 a1 k
 have ih0 := precedence_read.mono_l k
 unfold precedence_read.f
 repeat' first
   | (with_reducible exact ih0 _ _ _ _ _)
   | (with_reducible exact LeO.refl _)
   | (with_reducible exact LeO.none _)
   | (with_reducible refine LeO.ite ?_ ?_)
   | (with_reducible refine LeO.bind ?_ (fun _ => ?_))
   | exact ih0 _ _ _ _ _
   | exact LeO.none _
   | refine LeO.ite ?_ ?_
   | refine LeO.bind ?_ (fun _ => ?_)
def precedence_read.T5 : Bool × List (List Nat × List Nat) := (true, [([], []), ([0], [0]), ([], []), ([2], [2]), ([], []), ([4], [4]), ([], []), ([6], [6]), ([5, 7], [5, 7]), ([8], [8]), ([], []), ([10], [10]), ([11], [11]), ([9, 12], [9, 12]), ([1, 3, 0, 1, 2, 3, 4, 5, 6, 7, 8, 9, 10, 11, 12, 13], [1, 3]), ([14, 13, 13, 0, 1, 2, 3, 4, 5, 6, 7, 8, 9, 10, 11, 12, 13], [13, 14])])
def precedence_read.B5 : List Nat := [0, 1, 0, 4, 0, 16, 0, 64, 240, 496, 0, 1024, 3072, 8176, 16383, 32767]
theorem precedence_read.tab5 : rtab .any (opsOf Try.f42 5) = precedence_read.T5 := by kernel_rfl
theorem precedence_read.bits5 : waitsOk precedence_read.T5.2 precedence_read.B5 = true := by kernel_rfl
def precedence_read.T6 : Bool × List (List Nat × List Nat) := (true, [([], []), ([0], [0]), ([], []), ([2], [2]), ([], []), ([4], [4]), ([], []), ([6], [6]), ([5, 7], [5, 7]), ([8], [8]), ([], []), ([10], [10]), ([11], [11]), ([9, 12], [9, 12]), ([1, 3, 0, 1, 2, 3, 4, 5, 6, 7, 8, 9, 10, 11, 12, 13], [1, 3]), ([14, 13, 13, 0, 1, 2, 3, 4, 5, 6, 7, 8, 9, 10, 11, 12, 13], [13, 14])])
def precedence_read.B6 : List Nat := [0, 1, 0, 4, 0, 16, 0, 64, 240, 496, 0, 1024, 3072, 8176, 16383, 32767]
theorem precedence_read.tab6 : rtab .any (opsOf Try.f42 6) = precedence_read.T6 := by kernel_rfl
theorem precedence_read.bits6 : waitsOk precedence_read.T6.2 precedence_read.B6 = true := by kernel_rfl
set_option maxHeartbeats 8000000 in
set_option maxRecDepth 100000 in
theorem info31_ : (Try.prog.info? 31).map (fun i => (i.zero, i.size, i.bytes)) = some (some (.slice none 0 0), 1, 24) := by kernel_rfl
theorem S_elderD {α : Type} {d : Kd α} {e base : Nat} {W w1 : World} {ok : Nat → Prop} {u v : Value} {xs : List α} (h : Kd.S d e W base ok u xs) (hbase : ∀ k, v.ownBlock = some k → W.heap.size ≤ k) (hb : Below W.heap.size W w1) : Kd.S d e w1 base (fun k => ok k ∧ (some k ≠ v.ownBlock ∧ k < W.heap.size)) u xs :=
 Kd.S_below (Kd.S_mono (Kd.S_bound h) (fun k hk => ⟨hk.1, fun e => absurd (hbase k e.symm) (by have := hk.2.2.1; omega), hk.2.2.1⟩)) hb
theorem S_newD {α : Type} {d : Kd α} {e : Nat} {W w1 : World} {ok : Nat → Prop} {u v : Value} {xs : List α} (h : Kd.S d e w1 W.heap.size ok v xs) (hlt : ∀ k, u.ownBlock = some k → k < W.heap.size) : Kd.S d e w1 W.heap.size (fun k => ok k ∧ (some k ≠ u.ownBlock ∧ ¬ k < W.heap.size)) v xs :=
 Kd.S_mono (Kd.S_bound h) (fun k hk => ⟨hk.1, fun e => absurd (hlt k e.symm) (by have := hk.2.1; omega), by have := hk.2.1; omega⟩)
theorem precedence_read.calls (k : Nat) (a0 : Int) (A1 : Option Addr) (c1 : Nat) (l1 : List (S47)) (r1 : List (List Int)) (r2 : List (List Int)) (w : World) (hr1 : Kd.C k47 w A1 l1.length l1) (hc1 : l1.length ≤ c1) (h : precedence_read.f k a0 l1 = some (r1, r2)) :
  Calls Try.prog 42 #[.int .i64 a0, .slice A1 l1.length c1] w fun e w' => ∃ v0_ v1_ : Value, e = .returned (.agg #[v0_, v1_]) ∧ Kd.S (Kd.slice 3 (Kd.int .i64)) 31 w' w.heap.size (fun k_ => some k_ ≠ (v1_ : Value).ownBlock) v0_ r1 ∧ Kd.S (Kd.slice 3 (Kd.int .i64)) 31 w' w.heap.size (fun k_ => some k_ ≠ (v0_ : Value).ownBlock) v1_ r2 ∧ Below w.heap.size w w' := by
 have hu60 := Try.underlying60
 have hu47 := Try.underlying47
 have HR1 := aK hr1
 have HC1 := aK hc1
 clear hr1 hc1
 have HB := aK (Below.refl w.heap.size w)
 have H : (if 0 ≤ a0 then (if (a0 : Int).toNat ≤ 11728124029610 then (precedence_read.l0 k l1 (l1.length : Int) 0 (List.replicate (a0 : Int).toNat []) (List.replicate (a0 : Int).toNat [])) else (none)) else (none)) = some (r1, r2) := h
 clear h
 by_cases c3 : 0 ≤ a0
 ·rw [if_pos c3] at H
  have c3b0 := eq_true c3
  have c3b1 : decide (0 ≤ a0) = true := decide_eq_true c3
  clear c3
  by_cases c4 : (a0 : Int).toNat ≤ 11728124029610
  ·rw [if_pos c4] at H
   have c4b0 := eq_true c4
   have c4b1 : decide ((a0 : Int).toNat ≤ 11728124029610) = true := decide_eq_true c4
   clear c4
   obtain ⟨y104, hy104⟩ : ∃ y_ : List (List Int), y_ = (List.replicate (a0 : Int).toNat []) := ⟨_, rfl⟩
   replace H : (precedence_read.l0 k l1 (l1.length : Int) 0 y104 (List.replicate (a0 : Int).toNat [])) = some (r1, r2) := by first | (rw [hy104]; with_reducible exact H) | (have H2_ := (Option.bind_some _ _).symm.trans H; rw [hy104]; with_reducible exact H2_) | (have H2_ := (Option.bind_some _ _).symm.trans H; with_reducible exact H2_) | with_reducible exact H | (rw [hy104]; exact H) | exact H
   have Ny104 := aK hy104; clear hy104
   obtain ⟨y107, hy107⟩ : ∃ y_ : List (List Int), y_ = (List.replicate (a0 : Int).toNat []) := ⟨_, rfl⟩
   replace H : (precedence_read.l0 k l1 (l1.length : Int) 0 y104 y107) = some (r1, r2) := by first | (rw [hy107]; with_reducible exact H) | (have H2_ := (Option.bind_some _ _).symm.trans H; rw [hy107]; with_reducible exact H2_) | (have H2_ := (Option.bind_some _ _).symm.trans H; with_reducible exact H2_) | with_reducible exact H | (rw [hy107]; exact H) | exact H
   have Ny107 := aK hy107; clear hy107; have H' := aK H; clear H
   go_enter Try.func42, Try.ntmps42
   try go_wp2_with (first | ((with_reducible refine gate_dst (N := 4) rfl ?_); refine box_event ?hg (N := 4) ?hd (cs := #[.slice none 0 0, .slice none 0 0]) (t := 60) ?hr ?_; (case hd => rfl); (case hg => rfl); (case hr => first | (go_simp; done) | (go_simp; rfl)); intro gb103 hg w5 hbox hb; have n0_ := aK (bT_ (by repeat (first | (with_reducible first | exact HB.out | apply bA_ | apply bN_ | apply bD_) | exact HB.out)) hb); have n1_ := aK (hbox); have n2_ := aK ((by rw [hg]; exact (bZ_ (by repeat (first | (with_reducible first | exact HB.out | apply bA_ | apply bN_ | apply bD_) | exact HB.out))) : w.heap.size ≤ gb103)); have n3_ := aK ((by rw [hg]; exact (bZ_ (by repeat (first | (with_reducible first | exact HB.out | apply bA_ | apply bN_ | apply bD_) | exact HB.out))) : w.heap.size ≤ gb103)); clear HB; have HB := n0_; have BK103 := n1_; have GW103 := n2_; have GE103 := n3_; clear n0_ n1_ n2_ n3_; clear hb hbox hg))
   have n0_ := aK (blk_drew BK103.out)
   have n1_ := aK (bD_ HB.out)
   clear BK103; clear HB; have BK103 := n0_; have HB := n1_; clear n0_ n1_
   refine start_ (n := 7) (S := fun w' => True) (ds := []) #[false, false, false, false, false, false, false] (by kernel_rfl) rfl rfl trivial (fun hHeld => ?_)
   generalize w5.drew = w6 at BK103 HB hHeld ⊢
   refine pure_ (i := 0) (N := some 8) (v := ?_) (a' := ?_) #[true, false, false, false, false, false, false] rfl rfl (by kernel_rfl) (fun _ _ _ h => h) (Or.inl ⟨by rfl, ?_⟩) ?_ ?_
   rotate_left; ·intro w'; go_simp; with_reducible rfl
   rotate_left; ·simp only [Act.put, sA_, sZ_, sS_, i64_w, i32_w]; rfl
   refine pure_ (i := 2) (N := some 10) (v := ?_) (a' := ?_) #[true, false, true, false, false, false, false] rfl rfl (by kernel_rfl) (fun _ _ _ h => h) (Or.inl ⟨by rfl, ?_⟩) ?_ ?_
   rotate_left; ·intro w'; go_simp; with_reducible rfl
   rotate_left; ·simp only [Act.put, sA_, sZ_, sS_, i64_w, i32_w]; rfl
   refine join_ (σ := Value × Value × Nat) 1 #[true, true, true, true, true, true, false] (fun s_ => [(9, s_.1), (11, s_.2.1), (5, .pointer (some ⟨s_.2.2, 0, none⟩)), (12, .agg #[s_.1, s_.2.1])]) (fun s_ w' => (∃ D_ : Nat → Prop, (Kd.S (Kd.slice 3 (Kd.int .i64)) 31 w' w.heap.size (fun k_ => some k_ ≠ (s_.2.1 : Value).ownBlock ∧ ¬ D_ k_) s_.1 y104) ∧ (Kd.S (Kd.slice 3 (Kd.int .i64)) 31 w' w.heap.size (fun k_ => some k_ ≠ (s_.1 : Value).ownBlock ∧ D_ k_) s_.2.1 y107)) ∧ (w'.heap[gb103]? = some (.cells #[.slice none 0 0, .slice none 0 0] 60 (0, 0))) ∧ (w'.heap[s_.2.2]? = some (.cells #[.slice none 0 0, .slice none 0 0] 60 (0, 0))) ∧ (w.heap.size ≤ s_.2.2) ∧ (w.heap.size ≤ s_.2.2) ∧ (gb103 ≠ s_.2.2) ∧ (s_.2.2 ≠ gb103) ∧ (Below w.heap.size w w')) ?_ ?_
   rotate_left
   ·intro hJ1_3_5
    refine join_ (σ := Value × Value) 2 #[true, true, true, true, true, false, false] (fun s_ => [(9, s_.1), (11, s_.2), (12, .agg #[s_.1, s_.2])]) (fun s_ w' => (∃ D_ : Nat → Prop, (Kd.S (Kd.slice 3 (Kd.int .i64)) 31 w' w.heap.size (fun k_ => some k_ ≠ (s_.2 : Value).ownBlock ∧ ¬ D_ k_) s_.1 y104) ∧ (Kd.S (Kd.slice 3 (Kd.int .i64)) 31 w' w.heap.size (fun k_ => some k_ ≠ (s_.1 : Value).ownBlock ∧ D_ k_) s_.2 y107)) ∧ (w'.heap[gb103]? = some (.cells #[.slice none 0 0, .slice none 0 0] 60 (0, 0))) ∧ (Below w.heap.size w w')) ?_ ?_
    rotate_left
    ·intro hJ1_3
     refine join_ (σ := Value × Nat) 3 #[true, true, true, false, false, true, false] (fun s_ => [(9, s_.1), (5, .pointer (some ⟨s_.2, 0, none⟩))]) (fun s_ w' => (Kd.S (Kd.slice 3 (Kd.int .i64)) 31 w' w.heap.size (fun _ => True) s_.1 y104) ∧ (w'.heap[gb103]? = some (.cells #[.slice none 0 0, .slice none 0 0] 60 (0, 0))) ∧ (w'.heap[s_.2]? = some (.cells #[.slice none 0 0, .slice none 0 0] 60 (0, 0))) ∧ (w.heap.size ≤ s_.2) ∧ (w.heap.size ≤ s_.2) ∧ (gb103 ≠ s_.2) ∧ (s_.2 ≠ gb103) ∧ (Below w.heap.size w w')) ?_ ?_
     rotate_left
     ·intro hJ1_5
      refine join_ (σ := Value × Nat) 3 #[true, false, true, true, false, true, false] (fun s_ => [(11, s_.1), (5, .pointer (some ⟨s_.2, 0, none⟩))]) (fun s_ w' => (Kd.S (Kd.slice 3 (Kd.int .i64)) 31 w' w.heap.size (fun _ => True) s_.1 y107) ∧ (w'.heap[gb103]? = some (.cells #[.slice none 0 0, .slice none 0 0] 60 (0, 0))) ∧ (w'.heap[s_.2]? = some (.cells #[.slice none 0 0, .slice none 0 0] 60 (0, 0))) ∧ (w.heap.size ≤ s_.2) ∧ (w.heap.size ≤ s_.2) ∧ (gb103 ≠ s_.2) ∧ (s_.2 ≠ gb103) ∧ (Below w.heap.size w w')) ?_ ?_
      rotate_left
      ·intro hJ3_5
       refine join_ (σ := Value) 4 #[true, true, true, false, false, false, false] (fun s_ => [(9, s_)]) (fun s_ w' => (Kd.S (Kd.slice 3 (Kd.int .i64)) 31 w' w.heap.size (fun _ => True) s_ y104) ∧ (w'.heap[gb103]? = some (.cells #[.slice none 0 0, .slice none 0 0] 60 (0, 0))) ∧ (Below w.heap.size w w')) ?_ ?_
       rotate_left
       ·intro hJ1
        refine join_ (σ := Value) 4 #[true, false, true, true, false, false, false] (fun s_ => [(11, s_)]) (fun s_ w' => (Kd.S (Kd.slice 3 (Kd.int .i64)) 31 w' w.heap.size (fun _ => True) s_ y107) ∧ (w'.heap[gb103]? = some (.cells #[.slice none 0 0, .slice none 0 0] 60 (0, 0))) ∧ (Below w.heap.size w w')) ?_ ?_
        rotate_left
        ·intro hJ3
         refine join_ (σ := Nat) 4 #[true, false, true, false, false, true, false] (fun s_ => [(5, .pointer (some ⟨s_, 0, none⟩))]) (fun s_ w' => (w'.heap[gb103]? = some (.cells #[.slice none 0 0, .slice none 0 0] 60 (0, 0))) ∧ (w'.heap[s_]? = some (.cells #[.slice none 0 0, .slice none 0 0] 60 (0, 0))) ∧ (w.heap.size ≤ s_) ∧ (w.heap.size ≤ s_) ∧ (gb103 ≠ s_) ∧ (s_ ≠ gb103) ∧ (Below w.heap.size w w')) ?_ ?_
         rotate_left
         ·intro hJ5
          refine three_ (i := 1) (j := 3) (k := 5) (Ni := some 9) (Nj := some 11) (Nk := some 5) #[true, true, true, false, false, false, false] #[true, false, true, true, false, false, false] #[true, false, true, false, false, true, false] rfl rfl rfl rfl rfl rfl (by kernel_rfl) (by decide) (by decide) (by decide) (fun K hK => ?_) (fun K hK => ?_) (fun K hK => ?_)
          ·skip
           refine Kd.S_make_step (Kd.slice 3 (Kd.int .i64)) _ 31 (by rfl) (N := 9) rfl 58 _ _ rfl a0 rfl rfl Try.underlying58 (.slice none 0 0) 24 info31_ rfl (by decide) (by omega) [] (ok := fun _ => True) (okp := fun _ => True) ⟨_, rfl, Kd.R_nil _ _ _ _ _⟩ (fun _ hk => hk) trivial (of_decide_eq_true (by first | (with_reducible assumption) | assumption)) (Nat.le_trans (Nat.mul_le_mul_right _ (of_decide_eq_true (by first | (with_reducible assumption) | assumption) : a0.toNat ≤ 11728124029610)) (by omega)) (Below.refl _ _) (Nat.le_refl _) ?_
           intro v105 w7 ho8 hb hg_ hnew_; clear hg_ hnew_
           (first | rw [← Ny104.out] at ho8 | (simp only [Int.reduceToNat] at ho8; rw [← Ny104.out] at ho8))
           have n0_ := aK (Kd.S_lower ho8 (bZ_ (by repeat (first | (with_reducible first | exact HB.out | apply bA_ | apply bN_ | apply bD_ | refine below_set ?_ GE103.out) | exact HB.out))))
           have n1_ := aK (blk_below (g := gb103) (o := .cells #[.slice none 0 0, .slice none 0 0] 60 (0, 0)) (by (with_reducible repeat (first | refine blk_drewN ?_ _ | refine blk_drew ?_ | refine blk_alloc ?_ _)); exact BK103.out) hb)
           have n2_ := aK (bT_ (by repeat (first | (with_reducible first | exact HB.out | apply bA_ | apply bN_ | apply bD_ | refine below_set ?_ GE103.out) | exact HB.out)) hb)
           clear BK103; clear HB; have HO106 := n0_; have BK103 := n1_; have HB := n2_; clear n0_ n1_ n2_; clear hb ho8
           refine hK.out _ _ trivial (fun hHeld => ?_)
           clear hK K
           refine norm_ (a' := ?_) ?_ ?_
           rotate_left
           ·show Act.put _ (some 9) _ = _
            simp only [Act.put, sA_, sZ_, sS_, i64_w, i32_w]; rfl
           exact norm_ (by first | (simp only [putAll, Act.put, sA_, sZ_, sS_]; done) | (simp only [putAll, Act.put, sA_, sZ_, sS_]; rfl)) (hJ1 (v105) _ ⟨(by (with_reducible repeat (first | apply Kd.S_alloc | apply Kd.S_drewN | apply Kd.S_drew)); exact HO106.out), (by (with_reducible repeat (first | refine blk_drewN ?_ _ | refine blk_drew ?_ | refine blk_alloc ?_ _)); exact BK103.out), (by repeat (first | (with_reducible first | exact HB.out | apply bA_ | apply bN_ | apply bD_ | refine below_set ?_ GE103.out) | exact HB.out))⟩)
          ·skip
           refine Kd.S_make_step (Kd.slice 3 (Kd.int .i64)) _ 31 (by rfl) (N := 11) rfl 58 _ _ rfl a0 rfl rfl Try.underlying58 (.slice none 0 0) 24 info31_ rfl (by decide) (by omega) [] (ok := fun _ => True) (okp := fun _ => True) ⟨_, rfl, Kd.R_nil _ _ _ _ _⟩ (fun _ hk => hk) trivial (of_decide_eq_true (by first | (with_reducible assumption) | assumption)) (Nat.le_trans (Nat.mul_le_mul_right _ (of_decide_eq_true (by first | (with_reducible assumption) | assumption) : a0.toNat ≤ 11728124029610)) (by omega)) (Below.refl _ _) (Nat.le_refl _) ?_
           intro v108 w7 ho8 hb hg_ hnew_; clear hg_ hnew_
           (first | rw [← Ny107.out] at ho8 | (simp only [Int.reduceToNat] at ho8; rw [← Ny107.out] at ho8))
           have n0_ := aK (Kd.S_lower ho8 (bZ_ (by repeat (first | (with_reducible first | exact HB.out | apply bA_ | apply bN_ | apply bD_ | refine below_set ?_ GE103.out) | exact HB.out))))
           have n1_ := aK (blk_below (g := gb103) (o := .cells #[.slice none 0 0, .slice none 0 0] 60 (0, 0)) (by (with_reducible repeat (first | refine blk_drewN ?_ _ | refine blk_drew ?_ | refine blk_alloc ?_ _)); exact BK103.out) hb)
           have n2_ := aK (bT_ (by repeat (first | (with_reducible first | exact HB.out | apply bA_ | apply bN_ | apply bD_ | refine below_set ?_ GE103.out) | exact HB.out)) hb)
           clear BK103; clear HB; have HO109 := n0_; have BK103 := n1_; have HB := n2_; clear n0_ n1_ n2_; clear hb ho8
           refine hK.out _ _ trivial (fun hHeld => ?_)
           clear hK K
           refine norm_ (a' := ?_) ?_ ?_
           rotate_left
           ·show Act.put _ (some 11) _ = _
            simp only [Act.put, sA_, sZ_, sS_, i64_w, i32_w]; rfl
           exact norm_ (by first | (simp only [putAll, Act.put, sA_, sZ_, sS_]; done) | (simp only [putAll, Act.put, sA_, sZ_, sS_]; rfl)) (hJ3 (v108) _ ⟨(by (with_reducible repeat (first | apply Kd.S_alloc | apply Kd.S_drewN | apply Kd.S_drew)); exact HO109.out), (by (with_reducible repeat (first | refine blk_drewN ?_ _ | refine blk_drew ?_ | refine blk_alloc ?_ _)); exact BK103.out), (by repeat (first | (with_reducible first | exact HB.out | apply bA_ | apply bN_ | apply bD_ | refine below_set ?_ GE103.out) | exact HB.out))⟩)
          ·skip
           refine box_step ?hg (N := 5) ?hd (cs := #[.slice none 0 0, .slice none 0 0]) (t := 60) ?hr ?_; (case hd => rfl); (case hg => rfl); (case hr => first | (go_simp; done) | (go_simp; rfl))
           intro gb110 hg w7 hbox hb
           have n0_ := aK (blk_below (g := gb103) (o := .cells #[.slice none 0 0, .slice none 0 0] 60 (0, 0)) (by (with_reducible repeat (first | refine blk_drewN ?_ _ | refine blk_drew ?_ | refine blk_alloc ?_ _)); exact BK103.out) hb)
           have n1_ := aK (bT_ (by repeat (first | (with_reducible first | exact HB.out | apply bA_ | apply bN_ | apply bD_ | refine below_set ?_ GE103.out) | exact HB.out)) hb)
           have n2_ := aK (hbox)
           have n3_ := aK ((by rw [hg]; exact (bZ_ (by repeat (first | (with_reducible first | exact HB.out | apply bA_ | apply bN_ | apply bD_ | refine below_set ?_ GE103.out) | exact HB.out))) : w.heap.size ≤ gb110))
           have n4_ := aK ((by rw [hg]; exact (bZ_ (by repeat (first | (with_reducible first | exact HB.out | apply bA_ | apply bN_ | apply bD_ | refine below_set ?_ GE103.out) | exact HB.out))) : w.heap.size ≤ gb110))
           have n5_ := aK ((by rw [hg]; exact Nat.ne_of_lt (blk_lt (g := gb103) (o := .cells #[.slice none 0 0, .slice none 0 0] 60 (0, 0)) (by (with_reducible repeat (first | refine blk_drewN ?_ _ | refine blk_drew ?_ | refine blk_alloc ?_ _)); exact BK103.out)) : gb103 ≠ gb110))
           have n6_ := aK ((by rw [hg]; exact Nat.ne_of_gt (blk_lt (g := gb103) (o := .cells #[.slice none 0 0, .slice none 0 0] 60 (0, 0)) (by (with_reducible repeat (first | refine blk_drewN ?_ _ | refine blk_drew ?_ | refine blk_alloc ?_ _)); exact BK103.out)) : gb110 ≠ gb103))
           clear BK103; clear HB; have BK103 := n0_; have HB := n1_; have BK110 := n2_; have GW110 := n3_; have GE110 := n4_; have NB103_110 := n5_; have NB110_103 := n6_; clear n0_ n1_ n2_ n3_ n4_ n5_ n6_; clear hb hbox hg
           refine hK.out _ _ trivial (fun hHeld => ?_)
           clear hK K
           refine norm_ (a' := ?_) ?_ ?_
           rotate_left
           ·show Act.put _ (some 5) _ = _
            simp only [Act.put, sA_, sZ_, sS_, i64_w, i32_w]; rfl
           exact norm_ (by first | (simp only [putAll, Act.put, sA_, sZ_, sS_]; done) | (simp only [putAll, Act.put, sA_, sZ_, sS_]; rfl)) (hJ5 (gb110) _ ⟨(by (with_reducible repeat (first | refine blk_drewN ?_ _ | refine blk_drew ?_ | refine blk_alloc ?_ _)); exact BK103.out), (by (with_reducible repeat (first | refine blk_drewN ?_ _ | refine blk_drew ?_ | refine blk_alloc ?_ _)); exact BK110.out), GW110.out, GE110.out, NB103_110.out, NB110_103.out, (by repeat (first | (with_reducible first | exact HB.out | apply bA_ | apply bN_ | apply bD_ | refine below_set ?_ GE103.out | refine below_set ?_ GE110.out) | exact HB.out))⟩)
         ·skip
          rintro gb110 w8 ⟨h0_, h1_, h2_, h3_, h4_, h5_, h6_⟩
          have n0_ : Aside0 (w8.heap[gb103]? = some (.cells #[.slice none 0 0, .slice none 0 0] 60 (0, 0))) := ⟨h0_⟩
          have n1_ : Aside0 (w8.heap[gb110]? = some (.cells #[.slice none 0 0, .slice none 0 0] 60 (0, 0))) := ⟨h1_⟩
          have n2_ : Aside0 (w.heap.size ≤ gb110) := ⟨h2_⟩
          have n3_ : Aside0 (w.heap.size ≤ gb110) := ⟨h3_⟩
          have n4_ : Aside0 (gb103 ≠ gb110) := ⟨h4_⟩
          have n5_ : Aside0 (gb110 ≠ gb103) := ⟨h5_⟩
          have n6_ : Aside0 (Below w.heap.size w w8) := ⟨h6_⟩
          clear BK103; clear HB; clear h0_ h1_ h2_ h3_ h4_ h5_ h6_; have BK103 := n0_; have BK110 := n1_; have GW110 := n2_; have GE110 := n3_; have NB103_110 := n4_; have NB110_103 := n5_; have HB := n6_; clear n0_ n1_ n2_ n3_ n4_ n5_ n6_; have hHeld := trivial
          refine norm_ (a' := ?_) ?_ ?_
          rotate_left; ·simp only [putAll, Act.put, sA_, sZ_, sS_]; rfl
          refine two_ (i := 1) (j := 3) (Ni := some 9) (Nj := some 11) #[true, true, true, false, false, true, false] #[true, false, true, true, false, true, false] rfl rfl rfl rfl (by kernel_rfl) (by decide) (by decide) (fun K hK => ?_) (fun K hK => ?_)
          ·skip
           refine Kd.S_make_step (Kd.slice 3 (Kd.int .i64)) _ 31 (by rfl) (N := 9) rfl 58 _ _ rfl a0 rfl rfl Try.underlying58 (.slice none 0 0) 24 info31_ rfl (by decide) (by omega) [] (ok := fun _ => True) (okp := fun _ => True) ⟨_, rfl, Kd.R_nil _ _ _ _ _⟩ (fun _ hk => hk) trivial (of_decide_eq_true (by first | (with_reducible assumption) | assumption)) (Nat.le_trans (Nat.mul_le_mul_right _ (of_decide_eq_true (by first | (with_reducible assumption) | assumption) : a0.toNat ≤ 11728124029610)) (by omega)) (Below.refl _ _) (Nat.le_refl _) ?_
           intro v105 w9 ho10 hb hg_ hnew_; clear hg_ hnew_
           (first | rw [← Ny104.out] at ho10 | (simp only [Int.reduceToNat] at ho10; rw [← Ny104.out] at ho10))
           have n0_ := aK (Kd.S_lower ho10 (bZ_ (by repeat (first | (with_reducible first | exact HB.out | apply bA_ | apply bN_ | apply bD_ | refine below_set ?_ GE103.out | refine below_set ?_ GE110.out) | exact HB.out))))
           have n1_ := aK (blk_below (g := gb103) (o := .cells #[.slice none 0 0, .slice none 0 0] 60 (0, 0)) (by (with_reducible repeat (first | refine blk_drewN ?_ _ | refine blk_drew ?_ | refine blk_alloc ?_ _)); exact BK103.out) hb)
           have n2_ := aK (blk_below (g := gb110) (o := .cells #[.slice none 0 0, .slice none 0 0] 60 (0, 0)) (by (with_reducible repeat (first | refine blk_drewN ?_ _ | refine blk_drew ?_ | refine blk_alloc ?_ _)); exact BK110.out) hb)
           have n3_ := aK (bT_ (by repeat (first | (with_reducible first | exact HB.out | apply bA_ | apply bN_ | apply bD_ | refine below_set ?_ GE103.out | refine below_set ?_ GE110.out) | exact HB.out)) hb)
           clear BK103; clear BK110; clear HB; have HO106 := n0_; have BK103 := n1_; have BK110 := n2_; have HB := n3_; clear n0_ n1_ n2_ n3_; clear hb ho10
           refine hK.out _ _ trivial (fun hHeld => ?_)
           clear hK K
           refine norm_ (a' := ?_) ?_ ?_
           rotate_left
           ·show Act.put _ (some 9) _ = _
            simp only [Act.put, sA_, sZ_, sS_, i64_w, i32_w]; rfl
           exact norm_ (by first | (simp only [putAll, Act.put, sA_, sZ_, sS_]; done) | (simp only [putAll, Act.put, sA_, sZ_, sS_]; rfl)) (hJ1_5 (v105, gb110) _ ⟨(by (with_reducible repeat (first | apply Kd.S_alloc | apply Kd.S_drewN | apply Kd.S_drew)); exact HO106.out), (by (with_reducible repeat (first | refine blk_drewN ?_ _ | refine blk_drew ?_ | refine blk_alloc ?_ _)); exact BK103.out), (by (with_reducible repeat (first | refine blk_drewN ?_ _ | refine blk_drew ?_ | refine blk_alloc ?_ _)); exact BK110.out), GW110.out, GE110.out, NB103_110.out, NB110_103.out, (by repeat (first | (with_reducible first | exact HB.out | apply bA_ | apply bN_ | apply bD_ | refine below_set ?_ GE103.out | refine below_set ?_ GE110.out) | exact HB.out))⟩)
          ·skip
           refine Kd.S_make_step (Kd.slice 3 (Kd.int .i64)) _ 31 (by rfl) (N := 11) rfl 58 _ _ rfl a0 rfl rfl Try.underlying58 (.slice none 0 0) 24 info31_ rfl (by decide) (by omega) [] (ok := fun _ => True) (okp := fun _ => True) ⟨_, rfl, Kd.R_nil _ _ _ _ _⟩ (fun _ hk => hk) trivial (of_decide_eq_true (by first | (with_reducible assumption) | assumption)) (Nat.le_trans (Nat.mul_le_mul_right _ (of_decide_eq_true (by first | (with_reducible assumption) | assumption) : a0.toNat ≤ 11728124029610)) (by omega)) (Below.refl _ _) (Nat.le_refl _) ?_
           intro v108 w9 ho10 hb hg_ hnew_; clear hg_ hnew_
           (first | rw [← Ny107.out] at ho10 | (simp only [Int.reduceToNat] at ho10; rw [← Ny107.out] at ho10))
           have n0_ := aK (Kd.S_lower ho10 (bZ_ (by repeat (first | (with_reducible first | exact HB.out | apply bA_ | apply bN_ | apply bD_ | refine below_set ?_ GE103.out | refine below_set ?_ GE110.out) | exact HB.out))))
           have n1_ := aK (blk_below (g := gb103) (o := .cells #[.slice none 0 0, .slice none 0 0] 60 (0, 0)) (by (with_reducible repeat (first | refine blk_drewN ?_ _ | refine blk_drew ?_ | refine blk_alloc ?_ _)); exact BK103.out) hb)
           have n2_ := aK (blk_below (g := gb110) (o := .cells #[.slice none 0 0, .slice none 0 0] 60 (0, 0)) (by (with_reducible repeat (first | refine blk_drewN ?_ _ | refine blk_drew ?_ | refine blk_alloc ?_ _)); exact BK110.out) hb)
           have n3_ := aK (bT_ (by repeat (first | (with_reducible first | exact HB.out | apply bA_ | apply bN_ | apply bD_ | refine below_set ?_ GE103.out | refine below_set ?_ GE110.out) | exact HB.out)) hb)
           clear BK103; clear BK110; clear HB; have HO109 := n0_; have BK103 := n1_; have BK110 := n2_; have HB := n3_; clear n0_ n1_ n2_ n3_; clear hb ho10
           refine hK.out _ _ trivial (fun hHeld => ?_)
           clear hK K
           refine norm_ (a' := ?_) ?_ ?_
           rotate_left
           ·show Act.put _ (some 11) _ = _
            simp only [Act.put, sA_, sZ_, sS_, i64_w, i32_w]; rfl
           exact norm_ (by first | (simp only [putAll, Act.put, sA_, sZ_, sS_]; done) | (simp only [putAll, Act.put, sA_, sZ_, sS_]; rfl)) (hJ3_5 (v108, gb110) _ ⟨(by (with_reducible repeat (first | apply Kd.S_alloc | apply Kd.S_drewN | apply Kd.S_drew)); exact HO109.out), (by (with_reducible repeat (first | refine blk_drewN ?_ _ | refine blk_drew ?_ | refine blk_alloc ?_ _)); exact BK103.out), (by (with_reducible repeat (first | refine blk_drewN ?_ _ | refine blk_drew ?_ | refine blk_alloc ?_ _)); exact BK110.out), GW110.out, GE110.out, NB103_110.out, NB110_103.out, (by repeat (first | (with_reducible first | exact HB.out | apply bA_ | apply bN_ | apply bD_ | refine below_set ?_ GE103.out | refine below_set ?_ GE110.out) | exact HB.out))⟩)
        ·skip
         rintro v108 w9 ⟨h0_, h1_, h2_⟩
         have n0_ : Aside0 (Kd.S (Kd.slice 3 (Kd.int .i64)) 31 w9 w.heap.size (fun _ => True) v108 y107) := ⟨h0_⟩
         have n1_ : Aside0 (w9.heap[gb103]? = some (.cells #[.slice none 0 0, .slice none 0 0] 60 (0, 0))) := ⟨h1_⟩
         have n2_ : Aside0 (Below w.heap.size w w9) := ⟨h2_⟩
         clear BK103; clear HB; clear h0_ h1_ h2_; have HO109 := n0_; have BK103 := n1_; have HB := n2_; clear n0_ n1_ n2_; have hHeld := trivial
         refine norm_ (a' := ?_) ?_ ?_
         rotate_left; ·simp only [putAll, Act.put, sA_, sZ_, sS_]; rfl
         refine two_ (i := 1) (j := 5) (Ni := some 9) (Nj := some 5) #[true, true, true, true, false, false, false] #[true, false, true, true, false, true, false] rfl rfl rfl rfl (by kernel_rfl) (by decide) (by decide) (fun K hK => ?_) (fun K hK => ?_)
         ·skip
          refine Kd.S_make_step (Kd.slice 3 (Kd.int .i64)) _ 31 (by rfl) (N := 9) rfl 58 _ _ rfl a0 rfl rfl Try.underlying58 (.slice none 0 0) 24 info31_ rfl (by decide) (by omega) [] (ok := fun _ => True) (okp := fun _ => True) ⟨_, rfl, Kd.R_nil _ _ _ _ _⟩ (fun _ hk => hk) trivial (of_decide_eq_true (by first | (with_reducible assumption) | assumption)) (Nat.le_trans (Nat.mul_le_mul_right _ (of_decide_eq_true (by first | (with_reducible assumption) | assumption) : a0.toNat ≤ 11728124029610)) (by omega)) (Below.refl _ _) (Nat.le_refl _) ?_
          intro v105 w10 ho11 hb hg_ hnew_; clear hg_ hnew_
          (first | rw [← Ny104.out] at ho11 | (simp only [Int.reduceToNat] at ho11; rw [← Ny104.out] at ho11))
          have n0_ := aK (S_elderD (by (with_reducible repeat (first | apply Kd.S_alloc | apply Kd.S_drewN | apply Kd.S_drew)); exact HO109.out) (Kd.S_base ho11) hb)
          have n1_ := aK (Kd.S_lower (S_newD ho11 (Kd.S_lt (by (with_reducible repeat (first | apply Kd.S_alloc | apply Kd.S_drewN | apply Kd.S_drew)); exact HO109.out))) (bZ_ (by repeat (first | (with_reducible first | exact HB.out | apply bA_ | apply bN_ | apply bD_ | refine below_set ?_ GE103.out) | exact HB.out))))
          have n2_ := aK (blk_below (g := gb103) (o := .cells #[.slice none 0 0, .slice none 0 0] 60 (0, 0)) (by (with_reducible repeat (first | refine blk_drewN ?_ _ | refine blk_drew ?_ | refine blk_alloc ?_ _)); exact BK103.out) hb)
          have n3_ := aK (bT_ (by repeat (first | (with_reducible first | exact HB.out | apply bA_ | apply bN_ | apply bD_ | refine below_set ?_ GE103.out) | exact HB.out)) hb)
          clear HO109; clear BK103; clear HB; have HO109 := n0_; have HO106 := n1_; have BK103 := n2_; have HB := n3_; clear n0_ n1_ n2_ n3_; clear hb ho11
          obtain ⟨Ao12, co12, eo12⟩ := Kd.S_slice HO109.out
          (first | subst eo12 | (injection eo12 with f1_ f2_ f3_; have f4_ := f1_.symm; have f5_ := f3_.symm; clear f1_ f2_ f3_; subst f4_; subst f5_))
          obtain ⟨Ao13, co13, eo13⟩ := Kd.S_slice HO106.out
          (first | subst eo13 | (injection eo13 with f1_ f2_ f3_; have f4_ := f1_.symm; have f5_ := f3_.symm; clear f1_ f2_ f3_; subst f4_; subst f5_))
          refine hK.out _ _ trivial (fun hHeld => ?_)
          clear hK K
          refine norm_ (a' := ?_) ?_ ?_
          rotate_left
          ·show Act.put _ (some 9) _ = _
           simp only [Act.put, sA_, sZ_, sS_, i64_w, i32_w]; rfl
          refine pure_ (i := 4) (N := some 12) (v := ?_) (a' := ?_) #[true, true, true, true, true, false, false] rfl rfl (by kernel_rfl) (fun _ _ _ h => h) (Or.inl ⟨by rfl, ?_⟩) ?_ ?_
          rotate_left; ·intro w'; go_simp; with_reducible rfl
          rotate_left; ·simp only [Act.put, sA_, sZ_, sS_, i64_w, i32_w]; rfl
          exact norm_ (by first | (simp only [putAll, Act.put, sA_, sZ_, sS_]; done) | (simp only [putAll, Act.put, sA_, sZ_, sS_]; rfl)) (hJ1_3 (.slice Ao13 y104.length co13, .slice Ao12 y107.length co12) _ ⟨⟨_, (by (with_reducible repeat (first | apply Kd.S_alloc | apply Kd.S_drewN | apply Kd.S_drew)); exact Kd.S_mono HO106.out (fun _ hk => hk.2)), (by (with_reducible repeat (first | apply Kd.S_alloc | apply Kd.S_drewN | apply Kd.S_drew)); exact Kd.S_mono HO109.out (fun _ hk => hk.2))⟩, (by (with_reducible repeat (first | refine blk_drewN ?_ _ | refine blk_drew ?_ | refine blk_alloc ?_ _)); exact BK103.out), (by repeat (first | (with_reducible first | exact HB.out | apply bA_ | apply bN_ | apply bD_ | refine below_set ?_ GE103.out) | exact HB.out))⟩)
         ·skip
          refine box_step ?hg (N := 5) ?hd (cs := #[.slice none 0 0, .slice none 0 0]) (t := 60) ?hr ?_; (case hd => rfl); (case hg => rfl); (case hr => first | (go_simp; done) | (go_simp; rfl))
          intro gb110 hg w10 hbox hb
          have n0_ := aK (Kd.S_below (by (with_reducible repeat (first | apply Kd.S_alloc | apply Kd.S_drewN | apply Kd.S_drew)); exact HO109.out) hb)
          have n1_ := aK (blk_below (g := gb103) (o := .cells #[.slice none 0 0, .slice none 0 0] 60 (0, 0)) (by (with_reducible repeat (first | refine blk_drewN ?_ _ | refine blk_drew ?_ | refine blk_alloc ?_ _)); exact BK103.out) hb)
          have n2_ := aK (bT_ (by repeat (first | (with_reducible first | exact HB.out | apply bA_ | apply bN_ | apply bD_ | refine below_set ?_ GE103.out) | exact HB.out)) hb)
          have n3_ := aK (hbox)
          have n4_ := aK ((by rw [hg]; exact (bZ_ (by repeat (first | (with_reducible first | exact HB.out | apply bA_ | apply bN_ | apply bD_ | refine below_set ?_ GE103.out) | exact HB.out))) : w.heap.size ≤ gb110))
          have n5_ := aK ((by rw [hg]; exact (bZ_ (by repeat (first | (with_reducible first | exact HB.out | apply bA_ | apply bN_ | apply bD_ | refine below_set ?_ GE103.out) | exact HB.out))) : w.heap.size ≤ gb110))
          have n6_ := aK ((by rw [hg]; exact Nat.ne_of_lt (blk_lt (g := gb103) (o := .cells #[.slice none 0 0, .slice none 0 0] 60 (0, 0)) (by (with_reducible repeat (first | refine blk_drewN ?_ _ | refine blk_drew ?_ | refine blk_alloc ?_ _)); exact BK103.out)) : gb103 ≠ gb110))
          have n7_ := aK ((by rw [hg]; exact Nat.ne_of_gt (blk_lt (g := gb103) (o := .cells #[.slice none 0 0, .slice none 0 0] 60 (0, 0)) (by (with_reducible repeat (first | refine blk_drewN ?_ _ | refine blk_drew ?_ | refine blk_alloc ?_ _)); exact BK103.out)) : gb110 ≠ gb103))
          clear HO109; clear BK103; clear HB; have HO109 := n0_; have BK103 := n1_; have HB := n2_; have BK110 := n3_; have GW110 := n4_; have GE110 := n5_; have NB103_110 := n6_; have NB110_103 := n7_; clear n0_ n1_ n2_ n3_ n4_ n5_ n6_ n7_; clear hb hbox hg
          refine hK.out _ _ trivial (fun hHeld => ?_)
          clear hK K
          refine norm_ (a' := ?_) ?_ ?_
          rotate_left
          ·show Act.put _ (some 5) _ = _
           simp only [Act.put, sA_, sZ_, sS_, i64_w, i32_w]; rfl
          exact norm_ (by first | (simp only [putAll, Act.put, sA_, sZ_, sS_]; done) | (simp only [putAll, Act.put, sA_, sZ_, sS_]; rfl)) (hJ3_5 (v108, gb110) _ ⟨(by (with_reducible repeat (first | apply Kd.S_alloc | apply Kd.S_drewN | apply Kd.S_drew)); exact HO109.out), (by (with_reducible repeat (first | refine blk_drewN ?_ _ | refine blk_drew ?_ | refine blk_alloc ?_ _)); exact BK103.out), (by (with_reducible repeat (first | refine blk_drewN ?_ _ | refine blk_drew ?_ | refine blk_alloc ?_ _)); exact BK110.out), GW110.out, GE110.out, NB103_110.out, NB110_103.out, (by repeat (first | (with_reducible first | exact HB.out | apply bA_ | apply bN_ | apply bD_ | refine below_set ?_ GE103.out | refine below_set ?_ GE110.out) | exact HB.out))⟩)
       ·skip
        rintro v105 w9 ⟨h0_, h1_, h2_⟩
        have n0_ : Aside0 (Kd.S (Kd.slice 3 (Kd.int .i64)) 31 w9 w.heap.size (fun _ => True) v105 y104) := ⟨h0_⟩
        have n1_ : Aside0 (w9.heap[gb103]? = some (.cells #[.slice none 0 0, .slice none 0 0] 60 (0, 0))) := ⟨h1_⟩
        have n2_ : Aside0 (Below w.heap.size w w9) := ⟨h2_⟩
        clear BK103; clear HB; clear h0_ h1_ h2_; have HO106 := n0_; have BK103 := n1_; have HB := n2_; clear n0_ n1_ n2_; have hHeld := trivial
        refine norm_ (a' := ?_) ?_ ?_
        rotate_left; ·simp only [putAll, Act.put, sA_, sZ_, sS_]; rfl
        refine two_ (i := 3) (j := 5) (Ni := some 11) (Nj := some 5) #[true, true, true, true, false, false, false] #[true, true, true, false, false, true, false] rfl rfl rfl rfl (by kernel_rfl) (by decide) (by decide) (fun K hK => ?_) (fun K hK => ?_)
        ·skip
         refine Kd.S_make_step (Kd.slice 3 (Kd.int .i64)) _ 31 (by rfl) (N := 11) rfl 58 _ _ rfl a0 rfl rfl Try.underlying58 (.slice none 0 0) 24 info31_ rfl (by decide) (by omega) [] (ok := fun _ => True) (okp := fun _ => True) ⟨_, rfl, Kd.R_nil _ _ _ _ _⟩ (fun _ hk => hk) trivial (of_decide_eq_true (by first | (with_reducible assumption) | assumption)) (Nat.le_trans (Nat.mul_le_mul_right _ (of_decide_eq_true (by first | (with_reducible assumption) | assumption) : a0.toNat ≤ 11728124029610)) (by omega)) (Below.refl _ _) (Nat.le_refl _) ?_
         intro v108 w10 ho11 hb hg_ hnew_; clear hg_ hnew_
         (first | rw [← Ny107.out] at ho11 | (simp only [Int.reduceToNat] at ho11; rw [← Ny107.out] at ho11))
         have n0_ := aK (S_elderD (by (with_reducible repeat (first | apply Kd.S_alloc | apply Kd.S_drewN | apply Kd.S_drew)); exact HO106.out) (Kd.S_base ho11) hb)
         have n1_ := aK (Kd.S_lower (S_newD ho11 (Kd.S_lt (by (with_reducible repeat (first | apply Kd.S_alloc | apply Kd.S_drewN | apply Kd.S_drew)); exact HO106.out))) (bZ_ (by repeat (first | (with_reducible first | exact HB.out | apply bA_ | apply bN_ | apply bD_ | refine below_set ?_ GE103.out) | exact HB.out))))
         have n2_ := aK (blk_below (g := gb103) (o := .cells #[.slice none 0 0, .slice none 0 0] 60 (0, 0)) (by (with_reducible repeat (first | refine blk_drewN ?_ _ | refine blk_drew ?_ | refine blk_alloc ?_ _)); exact BK103.out) hb)
         have n3_ := aK (bT_ (by repeat (first | (with_reducible first | exact HB.out | apply bA_ | apply bN_ | apply bD_ | refine below_set ?_ GE103.out) | exact HB.out)) hb)
         clear HO106; clear BK103; clear HB; have HO106 := n0_; have HO109 := n1_; have BK103 := n2_; have HB := n3_; clear n0_ n1_ n2_ n3_; clear hb ho11
         obtain ⟨Ao12, co12, eo12⟩ := Kd.S_slice HO109.out
         (first | subst eo12 | (injection eo12 with f1_ f2_ f3_; have f4_ := f1_.symm; have f5_ := f3_.symm; clear f1_ f2_ f3_; subst f4_; subst f5_))
         obtain ⟨Ao13, co13, eo13⟩ := Kd.S_slice HO106.out
         (first | subst eo13 | (injection eo13 with f1_ f2_ f3_; have f4_ := f1_.symm; have f5_ := f3_.symm; clear f1_ f2_ f3_; subst f4_; subst f5_))
         refine hK.out _ _ trivial (fun hHeld => ?_)
         clear hK K
         refine norm_ (a' := ?_) ?_ ?_
         rotate_left
         ·show Act.put _ (some 11) _ = _
          simp only [Act.put, sA_, sZ_, sS_, i64_w, i32_w]; rfl
         refine pure_ (i := 4) (N := some 12) (v := ?_) (a' := ?_) #[true, true, true, true, true, false, false] rfl rfl (by kernel_rfl) (fun _ _ _ h => h) (Or.inl ⟨by rfl, ?_⟩) ?_ ?_
         rotate_left; ·intro w'; go_simp; with_reducible rfl
         rotate_left; ·simp only [Act.put, sA_, sZ_, sS_, i64_w, i32_w]; rfl
         exact norm_ (by first | (simp only [putAll, Act.put, sA_, sZ_, sS_]; done) | (simp only [putAll, Act.put, sA_, sZ_, sS_]; rfl)) (hJ1_3 (.slice Ao13 y104.length co13, .slice Ao12 y107.length co12) _ ⟨⟨_, (by (with_reducible repeat (first | apply Kd.S_alloc | apply Kd.S_drewN | apply Kd.S_drew)); exact Kd.S_mono HO106.out (fun _ hk => ⟨hk.2.1, not_not_intro hk.2.2⟩)), (by (with_reducible repeat (first | apply Kd.S_alloc | apply Kd.S_drewN | apply Kd.S_drew)); exact Kd.S_mono HO109.out (fun _ hk => hk.2))⟩, (by (with_reducible repeat (first | refine blk_drewN ?_ _ | refine blk_drew ?_ | refine blk_alloc ?_ _)); exact BK103.out), (by repeat (first | (with_reducible first | exact HB.out | apply bA_ | apply bN_ | apply bD_ | refine below_set ?_ GE103.out) | exact HB.out))⟩)
        ·skip
         refine box_step ?hg (N := 5) ?hd (cs := #[.slice none 0 0, .slice none 0 0]) (t := 60) ?hr ?_; (case hd => rfl); (case hg => rfl); (case hr => first | (go_simp; done) | (go_simp; rfl))
         intro gb110 hg w10 hbox hb
         have n0_ := aK (Kd.S_below (by (with_reducible repeat (first | apply Kd.S_alloc | apply Kd.S_drewN | apply Kd.S_drew)); exact HO106.out) hb)
         have n1_ := aK (blk_below (g := gb103) (o := .cells #[.slice none 0 0, .slice none 0 0] 60 (0, 0)) (by (with_reducible repeat (first | refine blk_drewN ?_ _ | refine blk_drew ?_ | refine blk_alloc ?_ _)); exact BK103.out) hb)
         have n2_ := aK (bT_ (by repeat (first | (with_reducible first | exact HB.out | apply bA_ | apply bN_ | apply bD_ | refine below_set ?_ GE103.out) | exact HB.out)) hb)
         have n3_ := aK (hbox)
         have n4_ := aK ((by rw [hg]; exact (bZ_ (by repeat (first | (with_reducible first | exact HB.out | apply bA_ | apply bN_ | apply bD_ | refine below_set ?_ GE103.out) | exact HB.out))) : w.heap.size ≤ gb110))
         have n5_ := aK ((by rw [hg]; exact (bZ_ (by repeat (first | (with_reducible first | exact HB.out | apply bA_ | apply bN_ | apply bD_ | refine below_set ?_ GE103.out) | exact HB.out))) : w.heap.size ≤ gb110))
         have n6_ := aK ((by rw [hg]; exact Nat.ne_of_lt (blk_lt (g := gb103) (o := .cells #[.slice none 0 0, .slice none 0 0] 60 (0, 0)) (by (with_reducible repeat (first | refine blk_drewN ?_ _ | refine blk_drew ?_ | refine blk_alloc ?_ _)); exact BK103.out)) : gb103 ≠ gb110))
         have n7_ := aK ((by rw [hg]; exact Nat.ne_of_gt (blk_lt (g := gb103) (o := .cells #[.slice none 0 0, .slice none 0 0] 60 (0, 0)) (by (with_reducible repeat (first | refine blk_drewN ?_ _ | refine blk_drew ?_ | refine blk_alloc ?_ _)); exact BK103.out)) : gb110 ≠ gb103))
         clear HO106; clear BK103; clear HB; have HO106 := n0_; have BK103 := n1_; have HB := n2_; have BK110 := n3_; have GW110 := n4_; have GE110 := n5_; have NB103_110 := n6_; have NB110_103 := n7_; clear n0_ n1_ n2_ n3_ n4_ n5_ n6_ n7_; clear hb hbox hg
         refine hK.out _ _ trivial (fun hHeld => ?_)
         clear hK K
         refine norm_ (a' := ?_) ?_ ?_
         rotate_left
         ·show Act.put _ (some 5) _ = _
          simp only [Act.put, sA_, sZ_, sS_, i64_w, i32_w]; rfl
         exact norm_ (by first | (simp only [putAll, Act.put, sA_, sZ_, sS_]; done) | (simp only [putAll, Act.put, sA_, sZ_, sS_]; rfl)) (hJ1_5 (v105, gb110) _ ⟨(by (with_reducible repeat (first | apply Kd.S_alloc | apply Kd.S_drewN | apply Kd.S_drew)); exact HO106.out), (by (with_reducible repeat (first | refine blk_drewN ?_ _ | refine blk_drew ?_ | refine blk_alloc ?_ _)); exact BK103.out), (by (with_reducible repeat (first | refine blk_drewN ?_ _ | refine blk_drew ?_ | refine blk_alloc ?_ _)); exact BK110.out), GW110.out, GE110.out, NB103_110.out, NB110_103.out, (by repeat (first | (with_reducible first | exact HB.out | apply bA_ | apply bN_ | apply bD_ | refine below_set ?_ GE103.out | refine below_set ?_ GE110.out) | exact HB.out))⟩)
      ·skip
       rintro ⟨v108, gb110⟩ w10 ⟨h0_, h1_, h2_, h3_, h4_, h5_, h6_, h7_⟩
       have n0_ : Aside0 (Kd.S (Kd.slice 3 (Kd.int .i64)) 31 w10 w.heap.size (fun _ => True) v108 y107) := ⟨h0_⟩
       have n1_ : Aside0 (w10.heap[gb103]? = some (.cells #[.slice none 0 0, .slice none 0 0] 60 (0, 0))) := ⟨h1_⟩
       have n2_ : Aside0 (w10.heap[gb110]? = some (.cells #[.slice none 0 0, .slice none 0 0] 60 (0, 0))) := ⟨h2_⟩
       have n3_ : Aside0 (w.heap.size ≤ gb110) := ⟨h3_⟩
       have n4_ : Aside0 (w.heap.size ≤ gb110) := ⟨h4_⟩
       have n5_ : Aside0 (gb103 ≠ gb110) := ⟨h5_⟩
       have n6_ : Aside0 (gb110 ≠ gb103) := ⟨h6_⟩
       have n7_ : Aside0 (Below w.heap.size w w10) := ⟨h7_⟩
       clear BK103; clear HB; clear h0_ h1_ h2_ h3_ h4_ h5_ h6_ h7_; have HO109 := n0_; have BK103 := n1_; have BK110 := n2_; have GW110 := n3_; have GE110 := n4_; have NB103_110 := n5_; have NB110_103 := n6_; have HB := n7_; clear n0_ n1_ n2_ n3_ n4_ n5_ n6_ n7_; have hHeld := trivial
       refine norm_ (a' := ?_) ?_ ?_
       rotate_left; ·simp only [putAll, Act.put, sA_, sZ_, sS_]; rfl
       refine one_ (i := 1) (N := some 9) #[true, true, true, true, false, true, false] rfl rfl (by kernel_rfl) (by decide) (fun K hK => ?_)
       refine Kd.S_make_step (Kd.slice 3 (Kd.int .i64)) _ 31 (by rfl) (N := 9) rfl 58 _ _ rfl a0 rfl rfl Try.underlying58 (.slice none 0 0) 24 info31_ rfl (by decide) (by omega) [] (ok := fun _ => True) (okp := fun _ => True) ⟨_, rfl, Kd.R_nil _ _ _ _ _⟩ (fun _ hk => hk) trivial (of_decide_eq_true (by first | (with_reducible assumption) | assumption)) (Nat.le_trans (Nat.mul_le_mul_right _ (of_decide_eq_true (by first | (with_reducible assumption) | assumption) : a0.toNat ≤ 11728124029610)) (by omega)) (Below.refl _ _) (Nat.le_refl _) ?_
       intro v105 w11 ho12 hb hg_ hnew_; clear hg_ hnew_
       (first | rw [← Ny104.out] at ho12 | (simp only [Int.reduceToNat] at ho12; rw [← Ny104.out] at ho12))
       have n0_ := aK (S_elderD (by (with_reducible repeat (first | apply Kd.S_alloc | apply Kd.S_drewN | apply Kd.S_drew)); exact HO109.out) (Kd.S_base ho12) hb)
       have n1_ := aK (Kd.S_lower (S_newD ho12 (Kd.S_lt (by (with_reducible repeat (first | apply Kd.S_alloc | apply Kd.S_drewN | apply Kd.S_drew)); exact HO109.out))) (bZ_ (by repeat (first | (with_reducible first | exact HB.out | apply bA_ | apply bN_ | apply bD_ | refine below_set ?_ GE103.out | refine below_set ?_ GE110.out) | exact HB.out))))
       have n2_ := aK (blk_below (g := gb103) (o := .cells #[.slice none 0 0, .slice none 0 0] 60 (0, 0)) (by (with_reducible repeat (first | refine blk_drewN ?_ _ | refine blk_drew ?_ | refine blk_alloc ?_ _)); exact BK103.out) hb)
       have n3_ := aK (blk_below (g := gb110) (o := .cells #[.slice none 0 0, .slice none 0 0] 60 (0, 0)) (by (with_reducible repeat (first | refine blk_drewN ?_ _ | refine blk_drew ?_ | refine blk_alloc ?_ _)); exact BK110.out) hb)
       have n4_ := aK (bT_ (by repeat (first | (with_reducible first | exact HB.out | apply bA_ | apply bN_ | apply bD_ | refine below_set ?_ GE103.out | refine below_set ?_ GE110.out) | exact HB.out)) hb)
       clear HO109; clear BK103; clear BK110; clear HB; have HO109 := n0_; have HO106 := n1_; have BK103 := n2_; have BK110 := n3_; have HB := n4_; clear n0_ n1_ n2_ n3_ n4_; clear hb ho12
       obtain ⟨Ao13, co13, eo13⟩ := Kd.S_slice HO109.out
       (first | subst eo13 | (injection eo13 with f1_ f2_ f3_; have f4_ := f1_.symm; have f5_ := f3_.symm; clear f1_ f2_ f3_; subst f4_; subst f5_))
       obtain ⟨Ao14, co14, eo14⟩ := Kd.S_slice HO106.out
       (first | subst eo14 | (injection eo14 with f1_ f2_ f3_; have f4_ := f1_.symm; have f5_ := f3_.symm; clear f1_ f2_ f3_; subst f4_; subst f5_))
       refine hK.out _ _ trivial (fun hHeld => ?_)
       clear hK K
       refine norm_ (a' := ?_) ?_ ?_
       rotate_left
       ·show Act.put _ (some 9) _ = _
        simp only [Act.put, sA_, sZ_, sS_, i64_w, i32_w]; rfl
       refine pure_ (i := 4) (N := some 12) (v := ?_) (a' := ?_) #[true, true, true, true, true, true, false] rfl rfl (by kernel_rfl) (fun _ _ _ h => h) (Or.inl ⟨by rfl, ?_⟩) ?_ ?_
       rotate_left; ·intro w'; go_simp; with_reducible rfl
       rotate_left; ·simp only [Act.put, sA_, sZ_, sS_, i64_w, i32_w]; rfl
       exact norm_ (by first | (simp only [putAll, Act.put, sA_, sZ_, sS_]; done) | (simp only [putAll, Act.put, sA_, sZ_, sS_]; rfl)) (hJ1_3_5 (.slice Ao14 y104.length co14, .slice Ao13 y107.length co13, gb110) _ ⟨⟨_, (by (with_reducible repeat (first | apply Kd.S_alloc | apply Kd.S_drewN | apply Kd.S_drew)); exact Kd.S_mono HO106.out (fun _ hk => hk.2)), (by (with_reducible repeat (first | apply Kd.S_alloc | apply Kd.S_drewN | apply Kd.S_drew)); exact Kd.S_mono HO109.out (fun _ hk => hk.2))⟩, (by (with_reducible repeat (first | refine blk_drewN ?_ _ | refine blk_drew ?_ | refine blk_alloc ?_ _)); exact BK103.out), (by (with_reducible repeat (first | refine blk_drewN ?_ _ | refine blk_drew ?_ | refine blk_alloc ?_ _)); exact BK110.out), GW110.out, GE110.out, NB103_110.out, NB110_103.out, (by repeat (first | (with_reducible first | exact HB.out | apply bA_ | apply bN_ | apply bD_ | refine below_set ?_ GE103.out | refine below_set ?_ GE110.out) | exact HB.out))⟩)
     ·skip
      rintro ⟨v105, gb110⟩ w10 ⟨h0_, h1_, h2_, h3_, h4_, h5_, h6_, h7_⟩
      have n0_ : Aside0 (Kd.S (Kd.slice 3 (Kd.int .i64)) 31 w10 w.heap.size (fun _ => True) v105 y104) := ⟨h0_⟩
      have n1_ : Aside0 (w10.heap[gb103]? = some (.cells #[.slice none 0 0, .slice none 0 0] 60 (0, 0))) := ⟨h1_⟩
      have n2_ : Aside0 (w10.heap[gb110]? = some (.cells #[.slice none 0 0, .slice none 0 0] 60 (0, 0))) := ⟨h2_⟩
      have n3_ : Aside0 (w.heap.size ≤ gb110) := ⟨h3_⟩
      have n4_ : Aside0 (w.heap.size ≤ gb110) := ⟨h4_⟩
      have n5_ : Aside0 (gb103 ≠ gb110) := ⟨h5_⟩
      have n6_ : Aside0 (gb110 ≠ gb103) := ⟨h6_⟩
      have n7_ : Aside0 (Below w.heap.size w w10) := ⟨h7_⟩
      clear BK103; clear HB; clear h0_ h1_ h2_ h3_ h4_ h5_ h6_ h7_; have HO106 := n0_; have BK103 := n1_; have BK110 := n2_; have GW110 := n3_; have GE110 := n4_; have NB103_110 := n5_; have NB110_103 := n6_; have HB := n7_; clear n0_ n1_ n2_ n3_ n4_ n5_ n6_ n7_; have hHeld := trivial
      refine norm_ (a' := ?_) ?_ ?_
      rotate_left; ·simp only [putAll, Act.put, sA_, sZ_, sS_]; rfl
      refine one_ (i := 3) (N := some 11) #[true, true, true, true, false, true, false] rfl rfl (by kernel_rfl) (by decide) (fun K hK => ?_)
      refine Kd.S_make_step (Kd.slice 3 (Kd.int .i64)) _ 31 (by rfl) (N := 11) rfl 58 _ _ rfl a0 rfl rfl Try.underlying58 (.slice none 0 0) 24 info31_ rfl (by decide) (by omega) [] (ok := fun _ => True) (okp := fun _ => True) ⟨_, rfl, Kd.R_nil _ _ _ _ _⟩ (fun _ hk => hk) trivial (of_decide_eq_true (by first | (with_reducible assumption) | assumption)) (Nat.le_trans (Nat.mul_le_mul_right _ (of_decide_eq_true (by first | (with_reducible assumption) | assumption) : a0.toNat ≤ 11728124029610)) (by omega)) (Below.refl _ _) (Nat.le_refl _) ?_
      intro v108 w11 ho12 hb hg_ hnew_; clear hg_ hnew_
      (first | rw [← Ny107.out] at ho12 | (simp only [Int.reduceToNat] at ho12; rw [← Ny107.out] at ho12))
      have n0_ := aK (S_elderD (by (with_reducible repeat (first | apply Kd.S_alloc | apply Kd.S_drewN | apply Kd.S_drew)); exact HO106.out) (Kd.S_base ho12) hb)
      have n1_ := aK (Kd.S_lower (S_newD ho12 (Kd.S_lt (by (with_reducible repeat (first | apply Kd.S_alloc | apply Kd.S_drewN | apply Kd.S_drew)); exact HO106.out))) (bZ_ (by repeat (first | (with_reducible first | exact HB.out | apply bA_ | apply bN_ | apply bD_ | refine below_set ?_ GE103.out | refine below_set ?_ GE110.out) | exact HB.out))))
      have n2_ := aK (blk_below (g := gb103) (o := .cells #[.slice none 0 0, .slice none 0 0] 60 (0, 0)) (by (with_reducible repeat (first | refine blk_drewN ?_ _ | refine blk_drew ?_ | refine blk_alloc ?_ _)); exact BK103.out) hb)
      have n3_ := aK (blk_below (g := gb110) (o := .cells #[.slice none 0 0, .slice none 0 0] 60 (0, 0)) (by (with_reducible repeat (first | refine blk_drewN ?_ _ | refine blk_drew ?_ | refine blk_alloc ?_ _)); exact BK110.out) hb)
      have n4_ := aK (bT_ (by repeat (first | (with_reducible first | exact HB.out | apply bA_ | apply bN_ | apply bD_ | refine below_set ?_ GE103.out | refine below_set ?_ GE110.out) | exact HB.out)) hb)
      clear HO106; clear BK103; clear BK110; clear HB; have HO106 := n0_; have HO109 := n1_; have BK103 := n2_; have BK110 := n3_; have HB := n4_; clear n0_ n1_ n2_ n3_ n4_; clear hb ho12
      obtain ⟨Ao13, co13, eo13⟩ := Kd.S_slice HO109.out
      (first | subst eo13 | (injection eo13 with f1_ f2_ f3_; have f4_ := f1_.symm; have f5_ := f3_.symm; clear f1_ f2_ f3_; subst f4_; subst f5_))
      obtain ⟨Ao14, co14, eo14⟩ := Kd.S_slice HO106.out
      (first | subst eo14 | (injection eo14 with f1_ f2_ f3_; have f4_ := f1_.symm; have f5_ := f3_.symm; clear f1_ f2_ f3_; subst f4_; subst f5_))
      refine hK.out _ _ trivial (fun hHeld => ?_)
      clear hK K
      refine norm_ (a' := ?_) ?_ ?_
      rotate_left
      ·show Act.put _ (some 11) _ = _
       simp only [Act.put, sA_, sZ_, sS_, i64_w, i32_w]; rfl
      refine pure_ (i := 4) (N := some 12) (v := ?_) (a' := ?_) #[true, true, true, true, true, true, false] rfl rfl (by kernel_rfl) (fun _ _ _ h => h) (Or.inl ⟨by rfl, ?_⟩) ?_ ?_
      rotate_left; ·intro w'; go_simp; with_reducible rfl
      rotate_left; ·simp only [Act.put, sA_, sZ_, sS_, i64_w, i32_w]; rfl
      exact norm_ (by first | (simp only [putAll, Act.put, sA_, sZ_, sS_]; done) | (simp only [putAll, Act.put, sA_, sZ_, sS_]; rfl)) (hJ1_3_5 (.slice Ao14 y104.length co14, .slice Ao13 y107.length co13, gb110) _ ⟨⟨_, (by (with_reducible repeat (first | apply Kd.S_alloc | apply Kd.S_drewN | apply Kd.S_drew)); exact Kd.S_mono HO106.out (fun _ hk => ⟨hk.2.1, not_not_intro hk.2.2⟩)), (by (with_reducible repeat (first | apply Kd.S_alloc | apply Kd.S_drewN | apply Kd.S_drew)); exact Kd.S_mono HO109.out (fun _ hk => hk.2))⟩, (by (with_reducible repeat (first | refine blk_drewN ?_ _ | refine blk_drew ?_ | refine blk_alloc ?_ _)); exact BK103.out), (by (with_reducible repeat (first | refine blk_drewN ?_ _ | refine blk_drew ?_ | refine blk_alloc ?_ _)); exact BK110.out), GW110.out, GE110.out, NB103_110.out, NB110_103.out, (by repeat (first | (with_reducible first | exact HB.out | apply bA_ | apply bN_ | apply bD_ | refine below_set ?_ GE103.out | refine below_set ?_ GE110.out) | exact HB.out))⟩)
    ·skip
     rintro ⟨v105, v108⟩ w13 ⟨⟨D_, h0_, h1_⟩, h2_, h3_⟩
     have n0_ : Aside0 (Kd.S (Kd.slice 3 (Kd.int .i64)) 31 w13 w.heap.size (fun k_ => some k_ ≠ (v108 : Value).ownBlock ∧ ¬ D_ k_) v105 y104) := ⟨h0_⟩
     have n1_ : Aside0 (Kd.S (Kd.slice 3 (Kd.int .i64)) 31 w13 w.heap.size (fun k_ => some k_ ≠ (v105 : Value).ownBlock ∧ D_ k_) v108 y107) := ⟨h1_⟩
     have n2_ : Aside0 (w13.heap[gb103]? = some (.cells #[.slice none 0 0, .slice none 0 0] 60 (0, 0))) := ⟨h2_⟩
     have n3_ : Aside0 (Below w.heap.size w w13) := ⟨h3_⟩
     clear BK103; clear HB; clear h0_ h1_ h2_ h3_; have HO106 := n0_; have HO109 := n1_; have BK103 := n2_; have HB := n3_; clear n0_ n1_ n2_ n3_; have hHeld := trivial
     obtain ⟨Ao14, co14, eo14⟩ := Kd.S_slice HO109.out
     (first | subst eo14 | (injection eo14 with f1_ f2_ f3_; have f4_ := f1_.symm; have f5_ := f3_.symm; clear f1_ f2_ f3_; subst f4_; subst f5_))
     obtain ⟨Ao15, co15, eo15⟩ := Kd.S_slice HO106.out
     (first | subst eo15 | (injection eo15 with f1_ f2_ f3_; have f4_ := f1_.symm; have f5_ := f3_.symm; clear f1_ f2_ f3_; subst f4_; subst f5_))
     refine norm_ (a' := ?_) ?_ ?_
     rotate_left; ·simp only [putAll, Act.put, sA_, sZ_, sS_]; rfl
     refine one_ (i := 5) (N := some 5) #[true, true, true, true, true, true, false] rfl rfl (by kernel_rfl) (by decide) (fun K hK => ?_)
     refine box_step ?hg (N := 5) ?hd (cs := #[.slice none 0 0, .slice none 0 0]) (t := 60) ?hr ?_; (case hd => rfl); (case hg => rfl); (case hr => first | (go_simp; done) | (go_simp; rfl))
     intro gb110 hg w16 hbox hb
     have n0_ := aK (Kd.S_below (by (with_reducible repeat (first | apply Kd.S_alloc | apply Kd.S_drewN | apply Kd.S_drew)); exact HO106.out) hb)
     have n1_ := aK (Kd.S_below (by (with_reducible repeat (first | apply Kd.S_alloc | apply Kd.S_drewN | apply Kd.S_drew)); exact HO109.out) hb)
     have n2_ := aK (blk_below (g := gb103) (o := .cells #[.slice none 0 0, .slice none 0 0] 60 (0, 0)) (by (with_reducible repeat (first | refine blk_drewN ?_ _ | refine blk_drew ?_ | refine blk_alloc ?_ _)); exact BK103.out) hb)
     have n3_ := aK (bT_ (by repeat (first | (with_reducible first | exact HB.out | apply bA_ | apply bN_ | apply bD_ | refine below_set ?_ GE103.out) | exact HB.out)) hb)
     have n4_ := aK (hbox)
     have n5_ := aK ((by rw [hg]; exact (bZ_ (by repeat (first | (with_reducible first | exact HB.out | apply bA_ | apply bN_ | apply bD_ | refine below_set ?_ GE103.out) | exact HB.out))) : w.heap.size ≤ gb110))
     have n6_ := aK ((by rw [hg]; exact (bZ_ (by repeat (first | (with_reducible first | exact HB.out | apply bA_ | apply bN_ | apply bD_ | refine below_set ?_ GE103.out) | exact HB.out))) : w.heap.size ≤ gb110))
     have n7_ := aK ((by rw [hg]; exact Nat.ne_of_lt (blk_lt (g := gb103) (o := .cells #[.slice none 0 0, .slice none 0 0] 60 (0, 0)) (by (with_reducible repeat (first | refine blk_drewN ?_ _ | refine blk_drew ?_ | refine blk_alloc ?_ _)); exact BK103.out)) : gb103 ≠ gb110))
     have n8_ := aK ((by rw [hg]; exact Nat.ne_of_gt (blk_lt (g := gb103) (o := .cells #[.slice none 0 0, .slice none 0 0] 60 (0, 0)) (by (with_reducible repeat (first | refine blk_drewN ?_ _ | refine blk_drew ?_ | refine blk_alloc ?_ _)); exact BK103.out)) : gb110 ≠ gb103))
     clear HO106; clear HO109; clear BK103; clear HB; have HO106 := n0_; have HO109 := n1_; have BK103 := n2_; have HB := n3_; have BK110 := n4_; have GW110 := n5_; have GE110 := n6_; have NB103_110 := n7_; have NB110_103 := n8_; clear n0_ n1_ n2_ n3_ n4_ n5_ n6_ n7_ n8_; clear hb hbox hg
     refine hK.out _ _ trivial (fun hHeld => ?_)
     clear hK K
     refine norm_ (a' := ?_) ?_ ?_
     rotate_left
     ·show Act.put _ (some 5) _ = _
      simp only [Act.put, sA_, sZ_, sS_, i64_w, i32_w]; rfl
     exact norm_ (by first | (simp only [putAll, Act.put, sA_, sZ_, sS_]; done) | (simp only [putAll, Act.put, sA_, sZ_, sS_]; rfl)) (hJ1_3_5 (.slice Ao15 y104.length co15, .slice Ao14 y107.length co14, gb110) _ ⟨⟨D_, (by (with_reducible repeat (first | apply Kd.S_alloc | apply Kd.S_drewN | apply Kd.S_drew)); exact HO106.out), (by (with_reducible repeat (first | apply Kd.S_alloc | apply Kd.S_drewN | apply Kd.S_drew)); exact HO109.out)⟩, (by (with_reducible repeat (first | refine blk_drewN ?_ _ | refine blk_drew ?_ | refine blk_alloc ?_ _)); exact BK103.out), (by (with_reducible repeat (first | refine blk_drewN ?_ _ | refine blk_drew ?_ | refine blk_alloc ?_ _)); exact BK110.out), GW110.out, GE110.out, NB103_110.out, NB110_103.out, (by repeat (first | (with_reducible first | exact HB.out | apply bA_ | apply bN_ | apply bD_ | refine below_set ?_ GE103.out | refine below_set ?_ GE110.out) | exact HB.out))⟩)
   rintro ⟨v105, v108, gb110⟩ w14 ⟨⟨D_, h0_, h1_⟩, h2_, h3_, h4_, h5_, h6_, h7_, h8_⟩
   have n0_ : Aside0 (Kd.S (Kd.slice 3 (Kd.int .i64)) 31 w14 w.heap.size (fun k_ => some k_ ≠ (v108 : Value).ownBlock ∧ ¬ D_ k_) v105 y104) := ⟨h0_⟩
   have n1_ : Aside0 (Kd.S (Kd.slice 3 (Kd.int .i64)) 31 w14 w.heap.size (fun k_ => some k_ ≠ (v105 : Value).ownBlock ∧ D_ k_) v108 y107) := ⟨h1_⟩
   have n2_ : Aside0 (w14.heap[gb103]? = some (.cells #[.slice none 0 0, .slice none 0 0] 60 (0, 0))) := ⟨h2_⟩
   have n3_ : Aside0 (w14.heap[gb110]? = some (.cells #[.slice none 0 0, .slice none 0 0] 60 (0, 0))) := ⟨h3_⟩
   have n4_ : Aside0 (w.heap.size ≤ gb110) := ⟨h4_⟩
   have n5_ : Aside0 (w.heap.size ≤ gb110) := ⟨h5_⟩
   have n6_ : Aside0 (gb103 ≠ gb110) := ⟨h6_⟩
   have n7_ : Aside0 (gb110 ≠ gb103) := ⟨h7_⟩
   have n8_ : Aside0 (Below w.heap.size w w14) := ⟨h8_⟩
   clear BK103; clear HB; clear h0_ h1_ h2_ h3_ h4_ h5_ h6_ h7_ h8_; have HO106 := n0_; have HO109 := n1_; have BK103 := n2_; have BK110 := n3_; have GW110 := n4_; have GE110 := n5_; have NB103_110 := n6_; have NB110_103 := n7_; have HB := n8_; clear n0_ n1_ n2_ n3_ n4_ n5_ n6_ n7_ n8_; have hHeld := trivial
   obtain ⟨Ao15, co15, eo15⟩ := Kd.S_slice HO109.out
   (first | subst eo15 | (injection eo15 with f1_ f2_ f3_; have f4_ := f1_.symm; have f5_ := f3_.symm; clear f1_ f2_ f3_; subst f4_; subst f5_))
   obtain ⟨Ao16, co16, eo16⟩ := Kd.S_slice HO106.out
   (first | subst eo16 | (injection eo16 with f1_ f2_ f3_; have f4_ := f1_.symm; have f5_ := f3_.symm; clear f1_ f2_ f3_; subst f4_; subst f5_))
   refine norm_ (a' := ?_) ?_ ?_
   rotate_left; ·simp only [putAll, Act.put, sA_, sZ_, sS_]; rfl
   refine one_ (i := 6) (N := none) #[true, true, true, true, true, true, true] rfl rfl (by kernel_rfl) (by decide) (fun K hK => ?_)
   have hs17 : w14.cell? ⟨gb110, 0, none⟩ = some (.slice none 0 0) := (blk_cell BK110.out 0).trans rfl
   have hfs17 := blk_frozen BK110.out 0
   have hns17_0 := NB103_110.out
   have hms17_0 := NB110_103.out
   have hs18 : w14.cell? ⟨gb110, 1, none⟩ = some (.slice none 0 0) := (blk_cell BK110.out 1).trans rfl
   have hfs18 := blk_frozen BK110.out 1
   have hns18_0 := NB103_110.out
   have hms18_0 := NB110_103.out
   refine skip_ (w1 := ?_) (by rfl) rfl ?_ ?_
   rotate_left; ·go_simp; rfl
   refine hK.out _ _ trivial (fun hHeld => ?_)
   clear hK K
   refine done_ (by kernel_rfl) ?_
   try go_wp2
   go_loopg [15] k (fun kq v15 w' => ∃ (x15_1 : Int) (x111000_1 : List (List Int)) (x111001_1 : List (List Int)) (u111000 : Value) (u111001 : Value) (D_ : Nat → Prop), v15 = .int .i64 x15_1 ∧ Aside0 (precedence_read.l0 kq l1 (l1.length : Int) x15_1 x111000_1 x111001_1 = some (r1, r2)) ∧ Aside0 (kq ≤ k) ∧ Aside0 (Kd.S (Kd.slice 3 (Kd.int .i64)) 31 w' w.heap.size (fun k_ => some k_ ≠ (u111001 : Value).ownBlock ∧ ¬ D_ k_) u111000 x111000_1) ∧ Aside0 (Kd.S (Kd.slice 3 (Kd.int .i64)) 31 w' w.heap.size (fun k_ => some k_ ≠ (u111000 : Value).ownBlock ∧ D_ k_) u111001 x111001_1) ∧ Aside0 (w'.heap[gb103]? = some (.cells #[(.slice none 0 0), (.slice none 0 0)] 60 (0, 0))) ∧ Aside0 (w'.heap[gb110]? = some (.cells #[u111000, u111001] 60 (0, 0))) ∧ Aside0 (Below w.heap.size w w'))
   case atStart => exact ⟨(0), (y104), (y107), (.slice Ao16 y104.length co16), (.slice Ao15 y107.length co15), D_, (by first | rfl | (simp; done) | (simp [*]; done)), H', ⟨Nat.le_refl _⟩, ⟨by (with_reducible repeat (first | apply Kd.S_alloc | apply Kd.S_drewN | apply Kd.S_drew)); exact Kd.S_mono (Kd.S_far (p := ⟨gb110, 1, none⟩) (Kd.S_far (p := ⟨gb110, 0, none⟩) (Kd.S_types HO106.out BK110.out (by decide)) (fun _ hk => hk.2) (.slice Ao16 y104.length co16)) (fun _ hk => hk.2) (.slice Ao15 y107.length co15)) (fun _ hk => hk.1)⟩, ⟨by (with_reducible repeat (first | apply Kd.S_alloc | apply Kd.S_drewN | apply Kd.S_drew)); exact Kd.S_mono (Kd.S_far (p := ⟨gb110, 1, none⟩) (Kd.S_far (p := ⟨gb110, 0, none⟩) (Kd.S_types HO109.out BK110.out (by decide)) (fun _ hk => hk.2) (.slice Ao16 y104.length co16)) (fun _ hk => hk.2) (.slice Ao15 y107.length co15)) (fun _ hk => hk.1)⟩, ⟨by (with_reducible repeat (first | refine blk_drewN ?_ _ | refine blk_drew ?_ | refine blk_alloc ?_ _)); refine blk_far ?_ NB103_110.out _; (with_reducible repeat (first | refine blk_drewN ?_ _ | refine blk_drew ?_ | refine blk_alloc ?_ _)); refine blk_far ?_ NB103_110.out _; (with_reducible repeat (first | refine blk_drewN ?_ _ | refine blk_drew ?_ | refine blk_alloc ?_ _)); exact BK103.out⟩, ⟨by (with_reducible repeat (first | refine blk_drewN ?_ _ | refine blk_drew ?_ | refine blk_alloc ?_ _)); refine blk_put (cs := #[.slice Ao16 y104.length co16, .slice none 0 0]) ?_ 1 _ rfl; (with_reducible repeat (first | refine blk_drewN ?_ _ | refine blk_drew ?_ | refine blk_alloc ?_ _)); refine blk_put (cs := #[.slice none 0 0, .slice none 0 0]) ?_ 0 _ rfl; (with_reducible repeat (first | refine blk_drewN ?_ _ | refine blk_drew ?_ | refine blk_alloc ?_ _)); exact BK110.out⟩, ⟨by repeat (first | (with_reducible first | exact HB.out | apply bA_ | apply bN_ | apply bD_ | refine below_set ?_ GE103.out | refine below_set ?_ GE110.out) | exact HB.out)⟩⟩
   case round =>
    clear H'; try clear p2
    obtain ⟨x15_1, x111000_1, x111001_1, u111000, u111001, D_, rfl, HA, HK1, HO_111000, HO_111001, BK103, BK110, HB⟩ := hrel
    cases gk with
    | zero => exact absurd HA.out (by simp [precedence_read.l0])
    | succ k1 =>
     have H := HA.out
     clear HA
     simp only [precedence_read.l0] at H
     by_cases c19 : x15_1 < (l1.length : Int)
     ·rw [if_pos c19] at H
      have c19b0 : decide (x15_1 < (l1.length : Int)) = true := decide_eq_true c19
      clear c19
      by_cases c20 : 0 ≤ x15_1
      ·rw [if_pos c20] at H
       have c20b0 : decide (0 ≤ x15_1) = true := decide_eq_true c20
       clear c20
       by_cases c21 : x15_1 < (l1.length : Int)
       ·rw [if_pos c21] at H
        have c21b0 : decide (x15_1 < (l1.length : Int)) = true := decide_eq_true c21
        clear c21
        by_cases c22 : 0 ≤ ((rd_T47 l1 x15_1).f0)
        ·rw [if_pos c22] at H
         have c22b0 : decide (0 ≤ ((rd_T47 l1 x15_1).f0)) = true := decide_eq_true c22
         clear c22
         by_cases c23 : ((rd_T47 l1 x15_1).f0) < (x111001_1.length : Int)
         ·rw [if_pos c23] at H
          have c23b0 : decide (((rd_T47 l1 x15_1).f0) < (x111001_1.length : Int)) = true := decide_eq_true c23
          clear c23
          by_cases c24 : (rd_L3 x111001_1 ((rd_T47 l1 x15_1).f0)).length < 17592186044416
          ·rw [if_pos c24] at H; have LMc24 := aK c24; clear c24
           obtain ⟨y114, hy114⟩ : ∃ y_ : List Int, y_ = ((rd_L3 x111001_1 ((rd_T47 l1 x15_1).f0)) ++ [(rd_T47 l1 x15_1).f1]) := ⟨_, rfl⟩
           replace H : (if 0 ≤ ((rd_T47 l1 x15_1).f1) then (if ((rd_T47 l1 x15_1).f1) < (x111000_1.length : Int) then (if (rd_L3 x111000_1 ((rd_T47 l1 x15_1).f1)).length < 17592186044416 then (precedence_read.l0 k1 l1 (l1.length : Int) (wrap64 (x15_1 + 1)) (x111000_1.set (((rd_T47 l1 x15_1).f1) : Int).toNat ((rd_L3 x111000_1 ((rd_T47 l1 x15_1).f1)) ++ [(rd_T47 l1 x15_1).f0])) (x111001_1.set (((rd_T47 l1 x15_1).f0) : Int).toNat y114)) else (none)) else (none)) else (none)) = some (r1, r2) := by first | (rw [hy114]; with_reducible exact H) | (have H2_ := (Option.bind_some _ _).symm.trans H; rw [hy114]; with_reducible exact H2_) | (have H2_ := (Option.bind_some _ _).symm.trans H; with_reducible exact H2_) | with_reducible exact H | (rw [hy114]; exact H) | exact H
           have Ny114 := aK hy114; clear hy114
           obtain ⟨y117, hy117⟩ : ∃ y_ : List (List Int), y_ = (x111001_1.set (((rd_T47 l1 x15_1).f0) : Int).toNat y114) := ⟨_, rfl⟩
           replace H : (if 0 ≤ ((rd_T47 l1 x15_1).f1) then (if ((rd_T47 l1 x15_1).f1) < (x111000_1.length : Int) then (if (rd_L3 x111000_1 ((rd_T47 l1 x15_1).f1)).length < 17592186044416 then (precedence_read.l0 k1 l1 (l1.length : Int) (wrap64 (x15_1 + 1)) (x111000_1.set (((rd_T47 l1 x15_1).f1) : Int).toNat ((rd_L3 x111000_1 ((rd_T47 l1 x15_1).f1)) ++ [(rd_T47 l1 x15_1).f0])) y117) else (none)) else (none)) else (none)) = some (r1, r2) := by first | (rw [hy117]; with_reducible exact H) | (have H2_ := (Option.bind_some _ _).symm.trans H; rw [hy117]; with_reducible exact H2_) | (have H2_ := (Option.bind_some _ _).symm.trans H; with_reducible exact H2_) | with_reducible exact H | (rw [hy117]; exact H) | exact H
           have Ny117 := aK hy117; clear hy117
           by_cases c26 : 0 ≤ ((rd_T47 l1 x15_1).f1)
           ·rw [if_pos c26] at H
            have c26b0 : decide (0 ≤ ((rd_T47 l1 x15_1).f1)) = true := decide_eq_true c26
            clear c26
            by_cases c27 : ((rd_T47 l1 x15_1).f1) < (x111000_1.length : Int)
            ·rw [if_pos c27] at H
             have c27b0 : decide (((rd_T47 l1 x15_1).f1) < (x111000_1.length : Int)) = true := decide_eq_true c27
             clear c27
             by_cases c28 : (rd_L3 x111000_1 ((rd_T47 l1 x15_1).f1)).length < 17592186044416
             ·rw [if_pos c28] at H; have LMc28 := aK c28; clear c28
              obtain ⟨y119, hy119⟩ : ∃ y_ : List Int, y_ = ((rd_L3 x111000_1 ((rd_T47 l1 x15_1).f1)) ++ [(rd_T47 l1 x15_1).f0]) := ⟨_, rfl⟩
              replace H : (precedence_read.l0 k1 l1 (l1.length : Int) (wrap64 (x15_1 + 1)) (x111000_1.set (((rd_T47 l1 x15_1).f1) : Int).toNat y119) y117) = some (r1, r2) := by first | (rw [hy119]; with_reducible exact H) | (have H2_ := (Option.bind_some _ _).symm.trans H; rw [hy119]; with_reducible exact H2_) | (have H2_ := (Option.bind_some _ _).symm.trans H; with_reducible exact H2_) | with_reducible exact H | (rw [hy119]; exact H) | exact H
              have Ny119 := aK hy119; clear hy119
              obtain ⟨y122, hy122⟩ : ∃ y_ : List (List Int), y_ = (x111000_1.set (((rd_T47 l1 x15_1).f1) : Int).toNat y119) := ⟨_, rfl⟩
              replace H : (precedence_read.l0 k1 l1 (l1.length : Int) (wrap64 (x15_1 + 1)) y122 y117) = some (r1, r2) := by first | (rw [hy122]; with_reducible exact H) | (have H2_ := (Option.bind_some _ _).symm.trans H; rw [hy122]; with_reducible exact H2_) | (have H2_ := (Option.bind_some _ _).symm.trans H; with_reducible exact H2_) | with_reducible exact H | (rw [hy122]; exact H) | exact H
              have Ny122 := aK hy122; clear hy122; have H' := aK H; clear H
              have p111 : 0 ≤ (x15_1 : Int) := of_decide_eq_true (by first | (with_reducible assumption) | assumption)
              have q111 : x15_1 < (l1.length : Int) := of_decide_eq_true (by first | (with_reducible assumption) | assumption)
              obtain ⟨ad111, e111, hx111_0, hx111_1⟩ := at_T47 HR1.out x15_1 p111 q111
              cases e111
              replace hx111_0 := (HB.out.cell (World.block_lt_of_cell? w _ hx111_0)).trans hx111_0
              replace hx111_1 := (HB.out.cell (World.block_lt_of_cell? w _ hx111_1)).trans hx111_1
              replace p111 := eq_true p111; replace q111 := eq_true q111
              try go_wp2_with (first | ((with_reducible refine gate_dst (N := 7) rfl ?_); refine box_event ?hg (N := 7) ?hd (cs := #[.int .i64 0, .int .i64 0]) (t := 47) ?hr ?_; (case hd => rfl); (case hg => rfl); (case hr => first | (go_simp; done) | (go_simp; rfl)); intro gb112 hg w30 hbox hb; have n0_ := aK (Kd.S_below (by (with_reducible repeat (first | apply Kd.S_alloc | apply Kd.S_drewN | apply Kd.S_drew)); exact HO_111000.out) hb); have n1_ := aK (Kd.S_below (by (with_reducible repeat (first | apply Kd.S_alloc | apply Kd.S_drewN | apply Kd.S_drew)); exact HO_111001.out) hb); have n2_ := aK (blk_below (g := gb103) (o := .cells #[.slice none 0 0, .slice none 0 0] 60 (0, 0)) (by (with_reducible repeat (first | refine blk_drewN ?_ _ | refine blk_drew ?_ | refine blk_alloc ?_ _)); exact BK103.out) hb); have n3_ := aK (blk_below (g := gb110) (o := .cells #[u111000, u111001] 60 (0, 0)) (by (with_reducible repeat (first | refine blk_drewN ?_ _ | refine blk_drew ?_ | refine blk_alloc ?_ _)); exact BK110.out) hb); have n4_ := aK (bT_ (by repeat (first | (with_reducible first | exact HB.out | apply bA_ | apply bN_ | apply bD_ | refine below_set ?_ GE103.out | refine below_set ?_ GE110.out) | exact HB.out)) hb); have n5_ := aK (hbox); have n6_ := aK ((by rw [hg]; exact (bZ_ (by repeat (first | (with_reducible first | exact HB.out | apply bA_ | apply bN_ | apply bD_ | refine below_set ?_ GE103.out | refine below_set ?_ GE110.out) | exact HB.out))) : w.heap.size ≤ gb112)); have n7_ := aK ((by rw [hg]; exact (bZ_ (by repeat (first | (with_reducible first | exact HB.out | apply bA_ | apply bN_ | apply bD_ | refine below_set ?_ GE103.out | refine below_set ?_ GE110.out) | exact HB.out))) : w.heap.size ≤ gb112)); have n8_ := aK ((by rw [hg]; exact Nat.ne_of_lt (blk_lt (g := gb103) (o := .cells #[.slice none 0 0, .slice none 0 0] 60 (0, 0)) (by (with_reducible repeat (first | refine blk_drewN ?_ _ | refine blk_drew ?_ | refine blk_alloc ?_ _)); exact BK103.out)) : gb103 ≠ gb112)); have n9_ := aK ((by rw [hg]; exact Nat.ne_of_gt (blk_lt (g := gb103) (o := .cells #[.slice none 0 0, .slice none 0 0] 60 (0, 0)) (by (with_reducible repeat (first | refine blk_drewN ?_ _ | refine blk_drew ?_ | refine blk_alloc ?_ _)); exact BK103.out)) : gb112 ≠ gb103)); have n10_ := aK ((by rw [hg]; exact Nat.ne_of_lt (blk_lt (g := gb110) (o := .cells #[u111000, u111001] 60 (0, 0)) (by (with_reducible repeat (first | refine blk_drewN ?_ _ | refine blk_drew ?_ | refine blk_alloc ?_ _)); exact BK110.out)) : gb110 ≠ gb112)); have n11_ := aK ((by rw [hg]; exact Nat.ne_of_gt (blk_lt (g := gb110) (o := .cells #[u111000, u111001] 60 (0, 0)) (by (with_reducible repeat (first | refine blk_drewN ?_ _ | refine blk_drew ?_ | refine blk_alloc ?_ _)); exact BK110.out)) : gb112 ≠ gb110)); clear HO_111000; clear HO_111001; clear BK103; clear BK110; clear HB; have HO_111000 := n0_; have HO_111001 := n1_; have BK103 := n2_; have BK110 := n3_; have HB := n4_; have BK112 := n5_; have GW112 := n6_; have GE112 := n7_; have NB103_112 := n8_; have NB112_103 := n9_; have NB110_112 := n10_; have NB112_110 := n11_; clear n0_ n1_ n2_ n3_ n4_ n5_ n6_ n7_ n8_ n9_ n10_ n11_; clear hb hbox hg; have hnb31 := NB112_103.out; have hnc31 := NB103_112.out; have hnb32 := NB112_110.out; have hnc32 := NB110_112.out; have hcz33_0 : w30.cell? ⟨gb112, 0, none⟩ = some (.int .i64 0) := (blk_cell BK112.out 0).trans rfl; have hcz33_1 : w30.cell? ⟨gb112, 1, none⟩ = some (.int .i64 0) := (blk_cell BK112.out 1).trans rfl; have hfz33_0 := blk_frozen BK112.out 0; have hfz33_1 := blk_frozen BK112.out 1))
              have n0_ : Aside0 (Kd.S (Kd.slice 3 (Kd.int .i64)) 31 ((w30.setCell ⟨gb112, 0, none⟩ (.int .i64 ((rd_T47 l1 x15_1).f0))).setCell ⟨gb112, 1, none⟩ (.int .i64 ((rd_T47 l1 x15_1).f1))) w.heap.size (fun k_ => some k_ ≠ (u111001 : Value).ownBlock ∧ ¬ D_ k_) u111000 x111000_1) := ⟨by (with_reducible repeat (first | apply Kd.S_alloc | apply Kd.S_drewN | apply Kd.S_drew)); exact Kd.S_mono (Kd.S_far (p := ⟨gb112, 1, none⟩) (Kd.S_far (p := ⟨gb112, 0, none⟩) (Kd.S_types HO_111000.out BK112.out (by decide)) (fun _ hk => hk.2) (.int .i64 ((rd_T47 l1 x15_1).f0))) (fun _ hk => hk.2) (.int .i64 ((rd_T47 l1 x15_1).f1))) (fun _ hk => hk.1)⟩
              have n1_ : Aside0 (Kd.S (Kd.slice 3 (Kd.int .i64)) 31 ((w30.setCell ⟨gb112, 0, none⟩ (.int .i64 ((rd_T47 l1 x15_1).f0))).setCell ⟨gb112, 1, none⟩ (.int .i64 ((rd_T47 l1 x15_1).f1))) w.heap.size (fun k_ => some k_ ≠ (u111000 : Value).ownBlock ∧ D_ k_) u111001 x111001_1) := ⟨by (with_reducible repeat (first | apply Kd.S_alloc | apply Kd.S_drewN | apply Kd.S_drew)); exact Kd.S_mono (Kd.S_far (p := ⟨gb112, 1, none⟩) (Kd.S_far (p := ⟨gb112, 0, none⟩) (Kd.S_types HO_111001.out BK112.out (by decide)) (fun _ hk => hk.2) (.int .i64 ((rd_T47 l1 x15_1).f0))) (fun _ hk => hk.2) (.int .i64 ((rd_T47 l1 x15_1).f1))) (fun _ hk => hk.1)⟩
              have n2_ : Aside0 (((w30.setCell ⟨gb112, 0, none⟩ (.int .i64 ((rd_T47 l1 x15_1).f0))).setCell ⟨gb112, 1, none⟩ (.int .i64 ((rd_T47 l1 x15_1).f1))).heap[gb103]? = some (.cells #[.slice none 0 0, .slice none 0 0] 60 (0, 0))) := ⟨by (with_reducible repeat (first | refine blk_drewN ?_ _ | refine blk_drew ?_ | refine blk_alloc ?_ _)); refine blk_far ?_ NB103_112.out _; (with_reducible repeat (first | refine blk_drewN ?_ _ | refine blk_drew ?_ | refine blk_alloc ?_ _)); refine blk_far ?_ NB103_112.out _; (with_reducible repeat (first | refine blk_drewN ?_ _ | refine blk_drew ?_ | refine blk_alloc ?_ _)); exact BK103.out⟩
              have n3_ : Aside0 (((w30.setCell ⟨gb112, 0, none⟩ (.int .i64 ((rd_T47 l1 x15_1).f0))).setCell ⟨gb112, 1, none⟩ (.int .i64 ((rd_T47 l1 x15_1).f1))).heap[gb110]? = some (.cells #[u111000, u111001] 60 (0, 0))) := ⟨by (with_reducible repeat (first | refine blk_drewN ?_ _ | refine blk_drew ?_ | refine blk_alloc ?_ _)); refine blk_far ?_ NB110_112.out _; (with_reducible repeat (first | refine blk_drewN ?_ _ | refine blk_drew ?_ | refine blk_alloc ?_ _)); refine blk_far ?_ NB110_112.out _; (with_reducible repeat (first | refine blk_drewN ?_ _ | refine blk_drew ?_ | refine blk_alloc ?_ _)); exact BK110.out⟩
              have n4_ : Aside0 (((w30.setCell ⟨gb112, 0, none⟩ (.int .i64 ((rd_T47 l1 x15_1).f0))).setCell ⟨gb112, 1, none⟩ (.int .i64 ((rd_T47 l1 x15_1).f1))).heap[gb112]? = some (.cells #[.int .i64 ((rd_T47 l1 x15_1).f0), .int .i64 ((rd_T47 l1 x15_1).f1)] 47 (0, 0))) := ⟨by (with_reducible repeat (first | refine blk_drewN ?_ _ | refine blk_drew ?_ | refine blk_alloc ?_ _)); refine blk_put (cs := #[.int .i64 ((rd_T47 l1 x15_1).f0), .int .i64 0]) ?_ 1 _ rfl; (with_reducible repeat (first | refine blk_drewN ?_ _ | refine blk_drew ?_ | refine blk_alloc ?_ _)); refine blk_put (cs := #[.int .i64 0, .int .i64 0]) ?_ 0 _ rfl; (with_reducible repeat (first | refine blk_drewN ?_ _ | refine blk_drew ?_ | refine blk_alloc ?_ _)); exact BK112.out⟩
              have n5_ : Aside0 (Below w.heap.size w ((w30.setCell ⟨gb112, 0, none⟩ (.int .i64 ((rd_T47 l1 x15_1).f0))).setCell ⟨gb112, 1, none⟩ (.int .i64 ((rd_T47 l1 x15_1).f1)))) := ⟨by repeat (first | (with_reducible first | exact HB.out | apply bA_ | apply bN_ | apply bD_ | refine below_set ?_ GE103.out | refine below_set ?_ GE110.out | refine below_set ?_ GE112.out) | exact HB.out)⟩
              (try clear HO_111000); (try clear HO_111001); (try clear BK103); (try clear BK110); (try clear BK112); (try clear HB)
              generalize ((w30.setCell ⟨gb112, 0, none⟩ (.int .i64 ((rd_T47 l1 x15_1).f0))).setCell ⟨gb112, 1, none⟩ (.int .i64 ((rd_T47 l1 x15_1).f1))) = w34 at n0_ n1_ n2_ n3_ n4_ n5_ ⊢
              have HO_111000 := n0_; have HO_111001 := n1_; have BK103 := n2_; have BK110 := n3_; have BK112 := n4_; have HB := n5_; clear n0_ n1_ n2_ n3_ n4_ n5_
              have n0_ := aK (Kd.S_drew HO_111000.out)
              have n1_ := aK (Kd.S_drew HO_111001.out)
              have n2_ := aK (blk_drew BK103.out)
              have n3_ := aK (blk_drew BK110.out)
              have n4_ := aK (blk_drew BK112.out)
              have n5_ := aK (bD_ HB.out)
              clear HO_111000; clear HO_111001; clear BK103; clear BK110; clear BK112; clear HB; have HO_111000 := n0_; have HO_111001 := n1_; have BK103 := n2_; have BK110 := n3_; have BK112 := n4_; have HB := n5_; clear n0_ n1_ n2_ n3_ n4_ n5_
              obtain ⟨Ao36, co36, eo36⟩ := Kd.S_slice HO_111001.out
              (first | subst eo36 | (injection eo36 with f1_ f2_ f3_; have f4_ := f1_.symm; have f5_ := f3_.symm; clear f1_ f2_ f3_; subst f4_; subst f5_))
              have p113 : 0 ≤ (((rd_T47 l1 x15_1).f0) : Int) := of_decide_eq_true (by first | (with_reducible assumption) | assumption)
              have q113 : ((rd_T47 l1 x15_1).f0) < (x111001_1.length : Int) := of_decide_eq_true (by first | (with_reducible assumption) | assumption)
              obtain ⟨ad113, A113_0, c113_0, e113, hx113_0, hl113_0, hi113_0⟩ := at_L3 (Kd.S_reads' HO_111001.out).2.2 ((rd_T47 l1 x15_1).f0) p113 q113
              cases e113
              obtain ⟨ce113, hce113, hMe113, hcc113⟩ := Kd.S_get HO_111001.out [] ((rd_T47 l1 x15_1).f0) p113 (by first | exact q113 | exact of_decide_eq_true (by first | (with_reducible assumption) | assumption) | (have e_ := (Kd.S_reads' HO_111001.out).1; omega))
              obtain ⟨ve113_0, rfl, ge113_0⟩ := hMe113
              have hv113_0 := hcc113 0 _ rfl
              rw [Nat.add_zero, show ((Kd.slice 3 (Kd.int .i64))).sz = 1 from rfl, Nat.mul_one] at hv113_0
              replace hv113_0 := Option.some.inj (hv113_0.symm.trans hx113_0)
              rw [hv113_0] at ge113_0
              have HL113_0 := aK (show Kd.R (Kd.int .i64) 3 _ _ _ _ (rd_L3 x111001_1 ((rd_T47 l1 x15_1).f0)) from ge113_0)
              clear hv113_0 ge113_0; have HX113_0 := aK hx113_0; clear hcc113 hce113; have HR113_0 := aK hi113_0; have HC113_0 := aK hl113_0; clear hi113_0 hl113_0; replace p113 := eq_true p113; replace q113 := eq_true q113
              obtain ⟨go37, co37, eo37, gb37, gl37, cl37, HG37⟩ := Kd.S_form HO_111001.out (by have h_ : (((rd_T47 l1 x15_1).f0) : Int) < ((x111001_1.length : Int) : Int) := of_decide_eq_true (by first | (with_reducible assumption) | assumption); have h2_ : 0 ≤ (((rd_T47 l1 x15_1).f0) : Int) := (of_decide_eq_true (by first | (with_reducible assumption) | assumption)); omega)
              (first | cases eo37 | (injection eo37 with ea_ en_ ec_; (first | subst ea_ | (injection ea_ with ea_; subst ea_)); subst ec_; clear en_))
              have GB37 := aK gb37; have GG37 := aK HG37; clear gb37 gl37 HG37
              (first | simp only [add_plain] at hx113_0 | skip)
              obtain ⟨oki37, ce37, hcl37, hM37, hcc37, _, hoki37, hH37⟩ := Kd.S_elem HO_111001.out [] (((rd_T47 l1 x15_1).f0) : Int) (of_decide_eq_true (by first | (with_reducible assumption) | assumption)) (by have h_ : (((rd_T47 l1 x15_1).f0) : Int) < ((x111001_1.length : Int) : Int) := of_decide_eq_true (by first | (with_reducible assumption) | assumption); first | exact h_ | (have e_ := (Kd.S_reads' HO_111001.out).1; omega) | simpa using h_)
              obtain ⟨ve37_0, rfl, ge37_0⟩ := hM37
              have hv37 := hcc37 0 _ rfl
              have hX37 := HX113_0.out
              (try simp only [add_plain] at hX37)
              (try simp only [Nat.add_zero] at hv37)
              (try rw [show ((Kd.slice 3 (Kd.int .i64))).sz = 1 from rfl, Nat.mul_one] at hv37)
              replace hv37 := Option.some.inj (hv37.symm.trans hX37)
              subst hv37; clear hX37 hcc37 hcl37
              have UU37 := aK (show Kd.R (Kd.int .i64) 3 _ w.heap.size oki37 (.slice A113_0 (rd_L3 x111001_1 ((rd_T47 l1 x15_1).f0)).length c113_0) (rd_L3 x111001_1 ((rd_T47 l1 x15_1).f0)) from ge37_0)
              have HH37 := aK hH37
              have HN37 := aK (Kd.S_reads' HO_111001.out).1
              clear hH37 ge37_0
              (first | simp only [add_plain] at hx113_0 | skip)
              refine start_ (n := 16) (S := fun w' => w'.cell? ⟨gb110, 0, none⟩ = some (u111000) ∧ w'.cell? ⟨gb110, 1, none⟩ = some (.slice (some ⟨go37, 0, none⟩) x111001_1.length co36) ∧ w'.cell? ⟨gb112, 0, none⟩ = some (.int .i64 ((rd_T47 l1 x15_1).f0)) ∧ w'.cell? ⟨gb112, 1, none⟩ = some (.int .i64 ((rd_T47 l1 x15_1).f1)) ∧ w'.cell? ⟨go37, (((rd_T47 l1 x15_1).f0)).toNat, none⟩ = some (.slice A113_0 (rd_L3 x111001_1 ((rd_T47 l1 x15_1).f0)).length c113_0)) (ds := [15]) #[false, false, false, false, false, false, false, false, false, false, false, false, false, false, false, false] (by kernel_rfl) rfl rfl ⟨(blk_cell BK110.out 0).trans rfl, (blk_cell BK110.out 1).trans rfl, (blk_cell BK112.out 0).trans rfl, (blk_cell BK112.out 1).trans rfl, hx113_0⟩ (fun hHeld => ?_); refine with_tabW precedence_read.tab5 precedence_read.bits5 (fun HT_ HW_ => ?_)
              generalize w34.drew = w35 at HO_111000 HO_111001 BK103 BK110 BK112 HB GG37 HH37 HL113_0 HR113_0 HX113_0 UU37 hx113_0 hHeld ⊢
              refine pure_ (i := 0) (N := some 19) (v := ?_) (a' := ?_) #[true, false, false, false, false, false, false, false, false, false, false, false, false, false, false, false] rfl rfl (any_of HT_.out (by kernel_rfl)) (fun _ _ _ h => h) (Or.inl ⟨by rfl, ?_⟩) ?_ ?_
              rotate_left; ·intro w'; go_simp; with_reducible rfl
              rotate_left; ·simp only [Act.put, sA_, sZ_, sS_, i64_w, i32_w]; rfl
              refine pure_ (i := 2) (N := some 21) (v := ?_) (a' := ?_) #[true, false, true, false, false, false, false, false, false, false, false, false, false, false, false, false] rfl rfl (any_of HT_.out (by kernel_rfl)) (fun _ _ _ h => h) (Or.inl ⟨by rfl, ?_⟩) ?_ ?_
              rotate_left; ·intro w'; go_simp; with_reducible rfl
              rotate_left; ·simp only [Act.put, sA_, sZ_, sS_, i64_w, i32_w]; rfl
              refine pure_ (i := 4) (N := some 23) (v := ?_) (a' := ?_) #[true, false, true, false, true, false, false, false, false, false, false, false, false, false, false, false] rfl rfl (any_of HT_.out (by kernel_rfl)) (fun _ _ _ h => h) (Or.inl ⟨by rfl, ?_⟩) ?_ ?_
              rotate_left; ·intro w'; go_simp; with_reducible rfl
              rotate_left; ·simp only [Act.put, sA_, sZ_, sS_, i64_w, i32_w]; rfl
              refine pure_ (i := 6) (N := some 25) (v := ?_) (a' := ?_) #[true, false, true, false, true, false, true, false, false, false, false, false, false, false, false, false] rfl rfl (any_of HT_.out (by kernel_rfl)) (fun _ _ _ h => h) (Or.inl ⟨by rfl, ?_⟩) ?_ ?_
              rotate_left; ·intro w'; go_simp; with_reducible rfl
              rotate_left; ·simp only [Act.put, sA_, sZ_, sS_, i64_w, i32_w]; rfl
              refine pure_ (i := 10) (N := some 29) (v := ?_) (a' := ?_) #[true, false, true, false, true, false, true, false, false, false, true, false, false, false, false, false] rfl rfl (any_of HT_.out (by kernel_rfl)) (fun _ _ _ h => h) (Or.inl ⟨by rfl, ?_⟩) ?_ ?_
              rotate_left; ·intro w'; go_simp; with_reducible rfl
              rotate_left; ·simp only [Act.put, sA_, sZ_, sS_, i64_w, i32_w]; rfl
              refine take_ (i := 1) (N := some 20) (v := ?_) (a' := ?_) #[true, true, true, false, true, false, true, false, false, false, true, false, false, false, false, false] rfl rfl (take_ofW HT_.out HW_.out (by kernel_rfl)) (fun _ _ _ h => h) (Or.inl ⟨by rfl, ?_⟩) hHeld ?_ ?_
              rotate_left
              ·rintro w' ⟨s0, s1, s2, s3, s4⟩; go_simp; with_reducible rfl
              rotate_left; ·simp only [Act.put, sA_, sZ_, sS_, i64_w, i32_w]; rfl
              refine take_ (i := 3) (N := some 22) (v := ?_) (a' := ?_) #[true, true, true, true, true, false, true, false, false, false, true, false, false, false, false, false] rfl rfl (take_ofW HT_.out HW_.out (by kernel_rfl)) (fun _ _ _ h => h) (Or.inl ⟨by rfl, ?_⟩) hHeld ?_ ?_
              rotate_left
              ·rintro w' ⟨s0, s1, s2, s3, s4⟩; go_simp; with_reducible rfl
              rotate_left; ·simp only [Act.put, sA_, sZ_, sS_, i64_w, i32_w]; rfl
              refine take_ (i := 5) (N := some 24) (v := ?_) (a' := ?_) #[true, true, true, true, true, true, true, false, false, false, true, false, false, false, false, false] rfl rfl (take_ofW HT_.out HW_.out (by kernel_rfl)) (fun _ _ _ h => h) (Or.inl ⟨by rfl, ?_⟩) hHeld ?_ ?_
              rotate_left
              ·rintro w' ⟨s0, s1, s2, s3, s4⟩; go_simp; with_reducible rfl
              rotate_left; ·simp only [Act.put, sA_, sZ_, sS_, i64_w, i32_w]; rfl
              refine take_ (i := 7) (N := some 26) (v := ?_) (a' := ?_) #[true, true, true, true, true, true, true, true, false, false, true, false, false, false, false, false] rfl rfl (take_ofW HT_.out HW_.out (by kernel_rfl)) (fun _ _ _ h => h) (Or.inl ⟨by rfl, ?_⟩) hHeld ?_ ?_
              rotate_left
              ·rintro w' ⟨s0, s1, s2, s3, s4⟩; go_simp; with_reducible rfl
              rotate_left; ·simp only [Act.put, sA_, sZ_, sS_, i64_w, i32_w]; rfl
              refine pure_ (i := 8) (N := some 27) (v := ?_) (a' := ?_) #[true, true, true, true, true, true, true, true, true, false, true, false, false, false, false, false] rfl rfl (any_of HT_.out (by kernel_rfl)) (fun _ _ _ h => h) (Or.inl ⟨by rfl, ?_⟩) ?_ ?_
              rotate_left; ·intro w'; go_simp; with_reducible rfl
              rotate_left; ·simp only [Act.put, sA_, sZ_, sS_, i64_w, i32_w]; rfl
              refine take_ (i := 9) (N := some 28) (v := ?_) (a' := ?_) #[true, true, true, true, true, true, true, true, true, true, true, false, false, false, false, false] rfl rfl (take_ofW HT_.out HW_.out (by kernel_rfl)) (fun _ _ _ h => h) (Or.inl ⟨by rfl, ?_⟩) hHeld ?_ ?_
              rotate_left
              ·rintro w' ⟨s0, s1, s2, s3, s4⟩; go_simp; with_reducible rfl
              rotate_left; ·simp only [Act.put, sA_, sZ_, sS_, i64_w, i32_w]; rfl
              refine take_ (i := 11) (N := some 30) (v := ?_) (a' := ?_) #[true, true, true, true, true, true, true, true, true, true, true, true, false, false, false, false] rfl rfl (take_ofW HT_.out HW_.out (by kernel_rfl)) (fun _ _ _ h => h) (Or.inl ⟨by rfl, ?_⟩) hHeld ?_ ?_
              rotate_left
              ·rintro w' ⟨s0, s1, s2, s3, s4⟩; go_simp; with_reducible rfl
              rotate_left; ·simp only [Act.put, sA_, sZ_, sS_, i64_w, i32_w]; rfl
              refine one_ (i := 12) (N := some 31) #[true, true, true, true, true, true, true, true, true, true, true, true, true, false, false, false] rfl rfl (one_of HT_.out (by kernel_rfl)) (by decide) (fun K hK => ?_)
              refine value_ (w1 := ?_) (v := ?_) (by rfl) rfl ?_ ?_
              rotate_left 2
              ·go_simp
               constructor
               ·rfl
               ·rfl
              refine hK.out _ _ ⟨(blk_cell (blk_alloc BK110.out _) 0).trans rfl, (blk_cell (blk_alloc BK110.out _) 1).trans rfl, (blk_cell (blk_alloc BK112.out _) 0).trans rfl, (blk_cell (blk_alloc BK112.out _) 1).trans rfl, (World.cell?_alloc_lt _ _ _ (World.block_lt_of_cell? _ _ (hHeld.2.2.2.2))).trans (hHeld.2.2.2.2)⟩ (fun hHeld => ?_)
              clear hK K
              refine norm_ (a' := ?_) ?_ ?_
              rotate_left
              ·show Act.put _ (some 31) _ = _
               simp only [Act.put, sA_, sZ_, sS_, i64_w, i32_w]; rfl
              obtain ⟨D1_, hD1a, hD1b, hD1c⟩ : ∃ D1_ : Nat → Prop, (∀ k, D_ k → D1_ k) ∧ (∀ k, w35.heap.size ≤ k → D1_ k) ∧ (∀ k, D1_ k → D_ k ∨ w35.heap.size ≤ k) := ⟨fun k => D_ k ∨ w35.heap.size ≤ k, fun _ => .inl, fun _ => .inr, fun _ h => h⟩
              replace HO_111000 := aK (Kd.S_mono (ok' := fun k_ => some k_ ≠ (.slice (some ⟨go37, 0, none⟩) x111001_1.length co36 : Value).ownBlock ∧ ¬ D1_ k_) (Kd.S_bound HO_111000.out) (fun k_ hk => ⟨hk.1.1, fun h_ => (hD1c k_ h_).elim hk.1.2 (fun h2 => by have := hk.2.2.1; omega)⟩))
              replace HH37 := aK (Kd.H_mono (ok' := fun k_ => some k_ ≠ (u111000 : Value).ownBlock ∧ D1_ k_) HH37.out (fun k_ hk => ⟨hk.1, hD1a k_ hk.2⟩))
              refine one_ (i := 13) (N := some 32) #[true, true, true, true, true, true, true, true, true, true, true, true, true, true, false, false] rfl rfl (one_of HT_.out (by kernel_rfl)) (by decide) (fun K hK => ?_)
              refine Kd.R_append_step (Kd.int .i64) (w0 := w) w.heap.size (by rfl) (.tmp 28) (.tmp 31) 31 3 (.int .i64 0) 8 rfl Try.underlying31 info3 rfl (by decide) (by omega) (.slice A113_0 (rd_L3 x111001_1 ((rd_T47 l1 x15_1).f0)).length c113_0) (rd_L3 x111001_1 ((rd_T47 l1 x15_1).f0)) ((rd_T47 l1 x15_1).f1) [.int .i64 ((rd_T47 l1 x15_1).f1)] (fun k_ => oki37 k_ ∨ ((fun k_ => some k_ ≠ (u111000 : Value).ownBlock ∧ D1_ k_)) k_ ∧ w35.heap.size ≤ k_) (fun _ => False) rfl rfl ?aP (fun _ hk => hk.elim) ?aF ?aO ?aB ?aS ?aL ?_
              (case aP => exact rfl)
              (case aB => exact (by repeat (first | (with_reducible first | exact HB.out | apply bA_ | apply bN_ | apply bD_ | refine below_set ?_ GE103.out | refine below_set ?_ GE110.out | refine below_set ?_ GE112.out) | exact HB.out)))
              (case aF => exact (fun k_ hk => .inr ⟨⟨Kd.fresh' (Kd.S_lt (by (with_reducible repeat (first | apply Kd.S_alloc | apply Kd.S_drewN | apply Kd.S_drew)); exact HO_111000.out)) k_ hk, hD1b k_ (by first | exact hk | (have h3_ := hk; simp only [World.alloc, Array.size_push] at h3_; omega))⟩, hk⟩))
              (case aO => exact (by (with_reducible repeat (first | apply Kd.R_alloc | apply Kd.R_drewN | apply Kd.R_drew)); exact Kd.R_mono UU37.out (fun _ hk => .inl hk)))
              (case aS => exact (bZ_ (by repeat (first | (with_reducible first | exact HB.out | apply bA_ | apply bN_ | apply bD_ | refine below_set ?_ GE103.out | refine below_set ?_ GE110.out | refine below_set ?_ GE112.out) | exact HB.out))))
              (case aL => have := LMc24.out; omega)
              intro v115 w38 ho hb hg hat
              (first | have HS4_ := cell_grown hg (hHeld.2.2.2.2) (by first | (rw [add_block]; exact (fun e_ => ((HL113_0.out.1 _ e_.symm).2) rfl)) | (show some (Addr.add _ _).block ≠ _; rw [add_block]; exact (fun e_ => ((HL113_0.out.1 _ e_.symm).2) rfl)) | exact (fun e_ => ((HL113_0.out.1 _ e_.symm).2) rfl)) | have HS4_ := cell_grown hg (cell_unalloc (hHeld.2.2.2.2) (by first | (rw [add_block]; exact Kd.S_lt HO_111001.out _ rfl) | (show (Addr.add _ _).block < _; rw [add_block]; exact Kd.S_lt HO_111001.out _ rfl) | exact Kd.S_lt HO_111001.out _ rfl)) (by first | (rw [add_block]; exact (fun e_ => ((HL113_0.out.1 _ e_.symm).2) rfl)) | (show some (Addr.add _ _).block ≠ _; rw [add_block]; exact (fun e_ => ((HL113_0.out.1 _ e_.symm).2) rfl)) | exact (fun e_ => ((HL113_0.out.1 _ e_.symm).2) rfl)))
              rw [← Ny114.out] at ho
              have n0_ := aK (Kd.S_grown (by (with_reducible repeat (first | apply Kd.S_alloc | apply Kd.S_drewN | apply Kd.S_drew)); exact HO_111000.out) hg (fun k_ ok_ e_ => by exact ok_.2 (hD1a k_ (hoki37 k_ (UU37.out.1 k_ e_.symm)).1.2)))
              have n1_ := aK (blk_grown (g := gb103) (o := .cells #[.slice none 0 0, .slice none 0 0] 60 (0, 0)) (by (with_reducible repeat (first | refine blk_drewN ?_ _ | refine blk_drew ?_ | refine blk_alloc ?_ _)); exact BK103.out) hg (Kd.R_ne HL113_0.out BK103.out (by decide)))
              have n2_ := aK (blk_grown (g := gb110) (o := .cells #[u111000, .slice (some ⟨go37, 0, none⟩) x111001_1.length co36] 60 (0, 0)) (by (with_reducible repeat (first | refine blk_drewN ?_ _ | refine blk_drew ?_ | refine blk_alloc ?_ _)); exact BK110.out) hg (Kd.R_ne HL113_0.out BK110.out (by decide)))
              have n3_ := aK (blk_grown (g := gb112) (o := .cells #[.int .i64 ((rd_T47 l1 x15_1).f0), .int .i64 ((rd_T47 l1 x15_1).f1)] 47 (0, 0)) (by (with_reducible repeat (first | refine blk_drewN ?_ _ | refine blk_drew ?_ | refine blk_alloc ?_ _)); exact BK112.out) hg (Kd.R_ne HL113_0.out BK112.out (by decide)))
              have n4_ := aK (hb)
              have n5_ := aK (Kd.H_grown (Kd.H_widen (by repeat (first | exact HH37.out | refine Kd.H_alloc ?_ _ | refine Kd.H_drewN ?_ _ | refine Kd.H_drew ?_))) hg (fun k_ e_ => .inl (UU37.out.1 k_ e_)))
              have n6_ := aK (ho)
              clear HO_111000; clear BK103; clear BK110; clear BK112; clear HB; clear HH37; clear HO_111001; clear UU37; clear HL113_0; have HO_111000 := n0_; have BK103 := n1_; have BK110 := n2_; have BK112 := n3_; have HB := n4_; have HH37 := n5_; have HO116 := n6_; clear n0_ n1_ n2_ n3_ n4_ n5_ n6_; clear ho hb hg hat
              have p25 : 0 ≤ (((rd_T47 l1 x15_1).f0) : Int) := of_decide_eq_true (by first | (with_reducible assumption) | assumption)
              have q25 : (((rd_T47 l1 x15_1).f0) : Int) < ((x111001_1.length : Int) : Int) := of_decide_eq_true (by first | (with_reducible assumption) | assumption)
              replace p25 := eq_true p25; replace q25 := eq_true q25
              obtain ⟨Ao41, co41, eo41⟩ := Kd.R_slice HO116.out
              (first | subst eo41 | (injection eo41 with f1_ f2_ f3_; have f4_ := f1_.symm; have f5_ := f3_.symm; clear f1_ f2_ f3_; subst f4_; subst f5_))
              obtain ⟨_, _, hraw39, _, _, hcc39, _⟩ := Kd.H_raw HH37.out (of_decide_eq_true (by first | (with_reducible assumption) | assumption)) (by have h_ : (((rd_T47 l1 x15_1).f0) : Int) < ((x111001_1.length : Int) : Int) := of_decide_eq_true (by first | (with_reducible assumption) | assumption); first | exact h_ | (have e_ := (HN37.out); omega) | simpa using h_)
              obtain ⟨_, hfr39⟩ := Kd.H_at HH37.out (of_decide_eq_true (by first | (with_reducible assumption) | assumption)) (by have h_ : (((rd_T47 l1 x15_1).f0) : Int) < ((x111001_1.length : Int) : Int) := of_decide_eq_true (by first | (with_reducible assumption) | assumption); first | exact h_ | (have e_ := (HN37.out); omega) | simpa using h_)
              have hx39_0 := hcc39 0 _ rfl
              have hf39_0 := hfr39 0
              (try simp only [Nat.add_zero] at hx39_0 hf39_0)
              (try rw [show ((Kd.slice 3 (Kd.int .i64))).sz = 1 from rfl, Nat.mul_one] at hx39_0)
              (try rw [show ((Kd.slice 3 (Kd.int .i64))).sz = 1 from rfl, Nat.mul_one] at hf39_0)
              have HP39 := Kd.S_seg0 HH37.out (of_decide_eq_true (by first | (with_reducible assumption) | assumption)) (by have h_ : (((rd_T47 l1 x15_1).f0) : Int) < ((x111001_1.length : Int) : Int) := of_decide_eq_true (by first | (with_reducible assumption) | assumption); first | exact h_ | (have e_ := (HN37.out); omega) | simpa using h_) (seg := [.slice Ao41 y114.length co41]) (j := 0) (show 1 ≤ 1 from by decide) (x' := y114) (Kd.M_row HO116.out) (fun _ hk => hk)
              (try simp only [show ((Kd.slice 3 (Kd.int .i64))).sz = 1 from rfl, Nat.mul_one, Nat.add_zero] at HP39)
              clear hcc39 hfr39
              have HNB103_go37 := aK (show gb103 ≠ go37 from by have h_ := Kd.R_ne hraw39 BK103.out (by decide); intro e_; exact h_ (by rw [e_]; rfl))
              have HNB110_go37 := aK (show gb110 ≠ go37 from by have h_ := Kd.R_ne hraw39 BK110.out (by decide); intro e_; exact h_ (by rw [e_]; rfl))
              have HNB112_go37 := aK (show gb112 ≠ go37 from by have h_ := Kd.R_ne hraw39 BK112.out (by decide); intro e_; exact h_ (by rw [e_]; rfl))
              have HS39 := HP39.1
              rw [← Ny117.out] at HS39; have HQ39 := aK HS39
              obtain ⟨_, hgg39⟩ := Kd.R_typed hraw39 go37 rfl
              have GG39_ := aK hgg39; clear HP39 HS39 hgg39
              refine hK.out _ _ ⟨(blk_cell BK110.out 0).trans rfl, (blk_cell BK110.out 1).trans rfl, (blk_cell BK112.out 0).trans rfl, (blk_cell BK112.out 1).trans rfl, HS4_⟩ (fun hHeld => ?_)
              clear hK K
              refine norm_ (a' := ?_) ?_ ?_
              rotate_left
              ·show Act.put _ (some 32) _ = _
               simp only [Act.put, sA_, sZ_, sS_, i64_w, i32_w]; rfl
              refine pure_ (i := 14) (N := some 33) (v := ?_) (a' := ?_) #[true, true, true, true, true, true, true, true, true, true, true, true, true, true, true, false] rfl rfl (any_of HT_.out (by kernel_rfl)) (fun _ _ _ h => h) (Or.inl ⟨by rfl, ?_⟩) ?_ ?_
              rotate_left; ·intro w'; go_simp; with_reducible rfl
              rotate_left; ·simp only [Act.put, sA_, sZ_, sS_, i64_w, i32_w]; rfl
              refine last_ (i := 15) (N := none) #[true, true, true, true, true, true, true, true, true, true, true, true, true, true, true, true] rfl rfl (one_of HT_.out (by kernel_rfl)) (by decide) (fun K hK => ?_)
              refine skip_ (w1 := ?_) (by rfl) rfl ?_ ?_
              rotate_left; ·go_simp; rfl
              refine hK.out _ _ ?_
              clear hK K
              refine done_ (done_of HT_.out (by kernel_rfl)) ?_
              try go_wp2
              have n0_ : Aside0 (Kd.S (Kd.slice 3 (Kd.int .i64)) 31 (w38.setCell ⟨go37, (((rd_T47 l1 x15_1).f0) : Int).toNat, none⟩ (.slice Ao41 y114.length co41)) w.heap.size (fun k_ => some k_ ≠ (.slice (some ⟨go37, 0, none⟩) x111001_1.length co36 : Value).ownBlock ∧ ¬ D1_ k_) u111000 x111000_1) := ⟨by (with_reducible repeat (first | apply Kd.S_alloc | apply Kd.S_drewN | apply Kd.S_drew)); exact Kd.S_mono (Kd.S_far (p := ⟨go37, (((rd_T47 l1 x15_1).f0) : Int).toNat, none⟩) (Kd.S_mono HO_111000.out (fun k_ hk => (⟨hk, fun e_ => hk.1 (by rw [e_]; rfl)⟩ : _ ∧ k_ ≠ go37))) (fun _ hk => hk.2) (.slice Ao41 y114.length co41)) (fun _ hk => hk.1)⟩
              have n1_ : Aside0 (Kd.S (Kd.slice 3 (Kd.int .i64)) 31 (w38.setCell ⟨go37, (((rd_T47 l1 x15_1).f0) : Int).toNat, none⟩ (.slice Ao41 y114.length co41)) w.heap.size (fun k_ => some k_ ≠ (u111000 : Value).ownBlock ∧ D1_ k_) (.slice (some ⟨go37, 0, none⟩) x111001_1.length co36) y117) := ⟨by (with_reducible repeat (first | apply Kd.S_alloc | apply Kd.S_drewN | apply Kd.S_drew)); exact HQ39.out⟩
              have n2_ : Aside0 ((w38.setCell ⟨go37, (((rd_T47 l1 x15_1).f0) : Int).toNat, none⟩ (.slice Ao41 y114.length co41)).heap[gb103]? = some (.cells #[.slice none 0 0, .slice none 0 0] 60 (0, 0))) := ⟨by (with_reducible repeat (first | refine blk_drewN ?_ _ | refine blk_drew ?_ | refine blk_alloc ?_ _)); refine blk_far ?_ HNB103_go37.out _; (with_reducible repeat (first | refine blk_drewN ?_ _ | refine blk_drew ?_ | refine blk_alloc ?_ _)); exact BK103.out⟩
              have n3_ : Aside0 ((w38.setCell ⟨go37, (((rd_T47 l1 x15_1).f0) : Int).toNat, none⟩ (.slice Ao41 y114.length co41)).heap[gb110]? = some (.cells #[u111000, .slice (some ⟨go37, 0, none⟩) x111001_1.length co36] 60 (0, 0))) := ⟨by (with_reducible repeat (first | refine blk_drewN ?_ _ | refine blk_drew ?_ | refine blk_alloc ?_ _)); refine blk_far ?_ HNB110_go37.out _; (with_reducible repeat (first | refine blk_drewN ?_ _ | refine blk_drew ?_ | refine blk_alloc ?_ _)); exact BK110.out⟩
              have n4_ : Aside0 ((w38.setCell ⟨go37, (((rd_T47 l1 x15_1).f0) : Int).toNat, none⟩ (.slice Ao41 y114.length co41)).heap[gb112]? = some (.cells #[.int .i64 ((rd_T47 l1 x15_1).f0), .int .i64 ((rd_T47 l1 x15_1).f1)] 47 (0, 0))) := ⟨by (with_reducible repeat (first | refine blk_drewN ?_ _ | refine blk_drew ?_ | refine blk_alloc ?_ _)); refine blk_far ?_ HNB112_go37.out _; (with_reducible repeat (first | refine blk_drewN ?_ _ | refine blk_drew ?_ | refine blk_alloc ?_ _)); exact BK112.out⟩
              have n5_ : Aside0 (Below w.heap.size w (w38.setCell ⟨go37, (((rd_T47 l1 x15_1).f0) : Int).toNat, none⟩ (.slice Ao41 y114.length co41))) := ⟨by repeat (first | (with_reducible first | exact HB.out | apply bA_ | apply bN_ | apply bD_ | refine below_set ?_ GB37.out | refine below_set ?_ GE103.out | refine below_set ?_ GE110.out | refine below_set ?_ GE112.out) | exact HB.out)⟩
              (try clear HO_111000); (try clear HO_111001); (try clear BK103); (try clear BK110); (try clear BK112); (try clear HB)
              generalize (w38.setCell ⟨go37, (((rd_T47 l1 x15_1).f0) : Int).toNat, none⟩ (.slice Ao41 y114.length co41)) = w42 at n0_ n1_ n2_ n3_ n4_ n5_ ⊢
              have HO_111000 := n0_; have HO_111001 := n1_; have BK103 := n2_; have BK110 := n3_; have BK112 := n4_; have HB := n5_; clear n0_ n1_ n2_ n3_ n4_ n5_
              have n0_ := aK (Kd.S_drew HO_111000.out)
              have n1_ := aK (Kd.S_drew HO_111001.out)
              have n2_ := aK (blk_drew BK103.out)
              have n3_ := aK (blk_drew BK110.out)
              have n4_ := aK (blk_drew BK112.out)
              have n5_ := aK (bD_ HB.out)
              clear HO_111000; clear HO_111001; clear BK103; clear BK110; clear BK112; clear HB; have HO_111000 := n0_; have HO_111001 := n1_; have BK103 := n2_; have BK110 := n3_; have BK112 := n4_; have HB := n5_; clear n0_ n1_ n2_ n3_ n4_ n5_
              obtain ⟨Ao44, co44, eo44⟩ := Kd.S_slice HO_111000.out
              (first | subst eo44 | (injection eo44 with f1_ f2_ f3_; have f4_ := f1_.symm; have f5_ := f3_.symm; clear f1_ f2_ f3_; subst f4_; subst f5_))
              have p118 : 0 ≤ (((rd_T47 l1 x15_1).f1) : Int) := of_decide_eq_true (by first | (with_reducible assumption) | assumption)
              have q118 : ((rd_T47 l1 x15_1).f1) < (x111000_1.length : Int) := of_decide_eq_true (by first | (with_reducible assumption) | assumption)
              obtain ⟨ad118, A118_0, c118_0, e118, hx118_0, hl118_0, hi118_0⟩ := at_L3 (Kd.S_reads' HO_111000.out).2.2 ((rd_T47 l1 x15_1).f1) p118 q118
              cases e118
              obtain ⟨ce118, hce118, hMe118, hcc118⟩ := Kd.S_get HO_111000.out [] ((rd_T47 l1 x15_1).f1) p118 (by first | exact q118 | exact of_decide_eq_true (by first | (with_reducible assumption) | assumption) | (have e_ := (Kd.S_reads' HO_111000.out).1; omega))
              obtain ⟨ve118_0, rfl, ge118_0⟩ := hMe118
              have hv118_0 := hcc118 0 _ rfl
              rw [Nat.add_zero, show ((Kd.slice 3 (Kd.int .i64))).sz = 1 from rfl, Nat.mul_one] at hv118_0
              replace hv118_0 := Option.some.inj (hv118_0.symm.trans hx118_0)
              rw [hv118_0] at ge118_0
              have HL118_0 := aK (show Kd.R (Kd.int .i64) 3 _ _ _ _ (rd_L3 x111000_1 ((rd_T47 l1 x15_1).f1)) from ge118_0)
              clear hv118_0 ge118_0; have HX118_0 := aK hx118_0; clear hcc118 hce118; have HR118_0 := aK hi118_0; have HC118_0 := aK hl118_0; clear hi118_0 hl118_0; replace p118 := eq_true p118; replace q118 := eq_true q118
              obtain ⟨go45, co45, eo45, gb45, gl45, cl45, HG45⟩ := Kd.S_form HO_111000.out (by have h_ : (((rd_T47 l1 x15_1).f1) : Int) < ((x111000_1.length : Int) : Int) := of_decide_eq_true (by first | (with_reducible assumption) | assumption); have h2_ : 0 ≤ (((rd_T47 l1 x15_1).f1) : Int) := (of_decide_eq_true (by first | (with_reducible assumption) | assumption)); omega)
              (first | cases eo45 | (injection eo45 with ea_ en_ ec_; (first | subst ea_ | (injection ea_ with ea_; subst ea_)); subst ec_; clear en_))
              have GB45 := aK gb45; have GG45 := aK HG45; clear gb45 gl45 HG45
              (first | simp only [add_plain] at hx118_0 | skip)
              obtain ⟨oki45, ce45, hcl45, hM45, hcc45, _, hoki45, hH45⟩ := Kd.S_elem HO_111000.out [] (((rd_T47 l1 x15_1).f1) : Int) (of_decide_eq_true (by first | (with_reducible assumption) | assumption)) (by have h_ : (((rd_T47 l1 x15_1).f1) : Int) < ((x111000_1.length : Int) : Int) := of_decide_eq_true (by first | (with_reducible assumption) | assumption); first | exact h_ | (have e_ := (Kd.S_reads' HO_111000.out).1; omega) | simpa using h_)
              obtain ⟨ve45_0, rfl, ge45_0⟩ := hM45
              have hv45 := hcc45 0 _ rfl
              have hX45 := HX118_0.out
              (try simp only [add_plain] at hX45)
              (try simp only [Nat.add_zero] at hv45)
              (try rw [show ((Kd.slice 3 (Kd.int .i64))).sz = 1 from rfl, Nat.mul_one] at hv45)
              replace hv45 := Option.some.inj (hv45.symm.trans hX45)
              subst hv45; clear hX45 hcc45 hcl45
              have UU45 := aK (show Kd.R (Kd.int .i64) 3 _ w.heap.size oki45 (.slice A118_0 (rd_L3 x111000_1 ((rd_T47 l1 x15_1).f1)).length c118_0) (rd_L3 x111000_1 ((rd_T47 l1 x15_1).f1)) from ge45_0)
              have HH45 := aK hH45
              have HN45 := aK (Kd.S_reads' HO_111000.out).1
              clear hH45 ge45_0
              (first | simp only [add_plain] at hx118_0 | skip)
              refine start_ (n := 16) (S := fun w' => w'.cell? ⟨gb110, 0, none⟩ = some (.slice (some ⟨go45, 0, none⟩) x111000_1.length co44) ∧ w'.cell? ⟨gb110, 1, none⟩ = some (.slice (some ⟨go37, 0, none⟩) x111001_1.length co36) ∧ w'.cell? ⟨gb112, 0, none⟩ = some (.int .i64 ((rd_T47 l1 x15_1).f0)) ∧ w'.cell? ⟨gb112, 1, none⟩ = some (.int .i64 ((rd_T47 l1 x15_1).f1)) ∧ w'.cell? ⟨go45, (((rd_T47 l1 x15_1).f1)).toNat, none⟩ = some (.slice A118_0 (rd_L3 x111000_1 ((rd_T47 l1 x15_1).f1)).length c118_0)) (ds := [15]) #[false, false, false, false, false, false, false, false, false, false, false, false, false, false, false, false] (by kernel_rfl) rfl rfl ⟨(blk_cell BK110.out 0).trans rfl, (blk_cell BK110.out 1).trans rfl, (blk_cell BK112.out 0).trans rfl, (blk_cell BK112.out 1).trans rfl, hx118_0⟩ (fun hHeld => ?_); refine with_tabW precedence_read.tab6 precedence_read.bits6 (fun HT_ HW_ => ?_)
              generalize w42.drew = w43 at HO_111000 HO_111001 BK103 BK110 BK112 HB GG45 HH45 HL118_0 HQ39 HR118_0 HX118_0 UU45 hx118_0 hHeld ⊢
              refine pure_ (i := 0) (N := some 34) (v := ?_) (a' := ?_) #[true, false, false, false, false, false, false, false, false, false, false, false, false, false, false, false] rfl rfl (any_of HT_.out (by kernel_rfl)) (fun _ _ _ h => h) (Or.inl ⟨by rfl, ?_⟩) ?_ ?_
              rotate_left; ·intro w'; go_simp; with_reducible rfl
              rotate_left; ·simp only [Act.put, sA_, sZ_, sS_, i64_w, i32_w]; rfl
              refine pure_ (i := 2) (N := some 36) (v := ?_) (a' := ?_) #[true, false, true, false, false, false, false, false, false, false, false, false, false, false, false, false] rfl rfl (any_of HT_.out (by kernel_rfl)) (fun _ _ _ h => h) (Or.inl ⟨by rfl, ?_⟩) ?_ ?_
              rotate_left; ·intro w'; go_simp; with_reducible rfl
              rotate_left; ·simp only [Act.put, sA_, sZ_, sS_, i64_w, i32_w]; rfl
              refine pure_ (i := 4) (N := some 38) (v := ?_) (a' := ?_) #[true, false, true, false, true, false, false, false, false, false, false, false, false, false, false, false] rfl rfl (any_of HT_.out (by kernel_rfl)) (fun _ _ _ h => h) (Or.inl ⟨by rfl, ?_⟩) ?_ ?_
              rotate_left; ·intro w'; go_simp; with_reducible rfl
              rotate_left; ·simp only [Act.put, sA_, sZ_, sS_, i64_w, i32_w]; rfl
              refine pure_ (i := 6) (N := some 40) (v := ?_) (a' := ?_) #[true, false, true, false, true, false, true, false, false, false, false, false, false, false, false, false] rfl rfl (any_of HT_.out (by kernel_rfl)) (fun _ _ _ h => h) (Or.inl ⟨by rfl, ?_⟩) ?_ ?_
              rotate_left; ·intro w'; go_simp; with_reducible rfl
              rotate_left; ·simp only [Act.put, sA_, sZ_, sS_, i64_w, i32_w]; rfl
              refine pure_ (i := 10) (N := some 44) (v := ?_) (a' := ?_) #[true, false, true, false, true, false, true, false, false, false, true, false, false, false, false, false] rfl rfl (any_of HT_.out (by kernel_rfl)) (fun _ _ _ h => h) (Or.inl ⟨by rfl, ?_⟩) ?_ ?_
              rotate_left; ·intro w'; go_simp; with_reducible rfl
              rotate_left; ·simp only [Act.put, sA_, sZ_, sS_, i64_w, i32_w]; rfl
              refine take_ (i := 1) (N := some 35) (v := ?_) (a' := ?_) #[true, true, true, false, true, false, true, false, false, false, true, false, false, false, false, false] rfl rfl (take_ofW HT_.out HW_.out (by kernel_rfl)) (fun _ _ _ h => h) (Or.inl ⟨by rfl, ?_⟩) hHeld ?_ ?_
              rotate_left
              ·rintro w' ⟨s0, s1, s2, s3, s4⟩; go_simp; with_reducible rfl
              rotate_left; ·simp only [Act.put, sA_, sZ_, sS_, i64_w, i32_w]; rfl
              refine take_ (i := 3) (N := some 37) (v := ?_) (a' := ?_) #[true, true, true, true, true, false, true, false, false, false, true, false, false, false, false, false] rfl rfl (take_ofW HT_.out HW_.out (by kernel_rfl)) (fun _ _ _ h => h) (Or.inl ⟨by rfl, ?_⟩) hHeld ?_ ?_
              rotate_left
              ·rintro w' ⟨s0, s1, s2, s3, s4⟩; go_simp; with_reducible rfl
              rotate_left; ·simp only [Act.put, sA_, sZ_, sS_, i64_w, i32_w]; rfl
              refine take_ (i := 5) (N := some 39) (v := ?_) (a' := ?_) #[true, true, true, true, true, true, true, false, false, false, true, false, false, false, false, false] rfl rfl (take_ofW HT_.out HW_.out (by kernel_rfl)) (fun _ _ _ h => h) (Or.inl ⟨by rfl, ?_⟩) hHeld ?_ ?_
              rotate_left
              ·rintro w' ⟨s0, s1, s2, s3, s4⟩; go_simp; with_reducible rfl
              rotate_left; ·simp only [Act.put, sA_, sZ_, sS_, i64_w, i32_w]; rfl
              refine take_ (i := 7) (N := some 41) (v := ?_) (a' := ?_) #[true, true, true, true, true, true, true, true, false, false, true, false, false, false, false, false] rfl rfl (take_ofW HT_.out HW_.out (by kernel_rfl)) (fun _ _ _ h => h) (Or.inl ⟨by rfl, ?_⟩) hHeld ?_ ?_
              rotate_left
              ·rintro w' ⟨s0, s1, s2, s3, s4⟩; go_simp; with_reducible rfl
              rotate_left; ·simp only [Act.put, sA_, sZ_, sS_, i64_w, i32_w]; rfl
              refine pure_ (i := 8) (N := some 42) (v := ?_) (a' := ?_) #[true, true, true, true, true, true, true, true, true, false, true, false, false, false, false, false] rfl rfl (any_of HT_.out (by kernel_rfl)) (fun _ _ _ h => h) (Or.inl ⟨by rfl, ?_⟩) ?_ ?_
              rotate_left; ·intro w'; go_simp; with_reducible rfl
              rotate_left; ·simp only [Act.put, sA_, sZ_, sS_, i64_w, i32_w]; rfl
              refine take_ (i := 9) (N := some 43) (v := ?_) (a' := ?_) #[true, true, true, true, true, true, true, true, true, true, true, false, false, false, false, false] rfl rfl (take_ofW HT_.out HW_.out (by kernel_rfl)) (fun _ _ _ h => h) (Or.inl ⟨by rfl, ?_⟩) hHeld ?_ ?_
              rotate_left
              ·rintro w' ⟨s0, s1, s2, s3, s4⟩; go_simp; with_reducible rfl
              rotate_left; ·simp only [Act.put, sA_, sZ_, sS_, i64_w, i32_w]; rfl
              refine take_ (i := 11) (N := some 45) (v := ?_) (a' := ?_) #[true, true, true, true, true, true, true, true, true, true, true, true, false, false, false, false] rfl rfl (take_ofW HT_.out HW_.out (by kernel_rfl)) (fun _ _ _ h => h) (Or.inl ⟨by rfl, ?_⟩) hHeld ?_ ?_
              rotate_left
              ·rintro w' ⟨s0, s1, s2, s3, s4⟩; go_simp; with_reducible rfl
              rotate_left; ·simp only [Act.put, sA_, sZ_, sS_, i64_w, i32_w]; rfl
              refine one_ (i := 12) (N := some 46) #[true, true, true, true, true, true, true, true, true, true, true, true, true, false, false, false] rfl rfl (one_of HT_.out (by kernel_rfl)) (by decide) (fun K hK => ?_)
              refine value_ (w1 := ?_) (v := ?_) (by rfl) rfl ?_ ?_
              rotate_left 2
              ·go_simp
               constructor
               ·rfl
               ·rfl
              refine hK.out _ _ ⟨(blk_cell (blk_alloc BK110.out _) 0).trans rfl, (blk_cell (blk_alloc BK110.out _) 1).trans rfl, (blk_cell (blk_alloc BK112.out _) 0).trans rfl, (blk_cell (blk_alloc BK112.out _) 1).trans rfl, (World.cell?_alloc_lt _ _ _ (World.block_lt_of_cell? _ _ (hHeld.2.2.2.2))).trans (hHeld.2.2.2.2)⟩ (fun hHeld => ?_)
              clear hK K
              refine norm_ (a' := ?_) ?_ ?_
              rotate_left
              ·show Act.put _ (some 46) _ = _
               simp only [Act.put, sA_, sZ_, sS_, i64_w, i32_w]; rfl
              obtain ⟨D2_, hD2a, hD2b, hD2c⟩ : ∃ D2_ : Nat → Prop, (∀ k, D2_ k → D1_ k) ∧ (∀ k, w43.heap.size ≤ k → ¬ D2_ k) ∧ (∀ k, D1_ k → k < w43.heap.size → D2_ k) := ⟨fun k => D1_ k ∧ k < w43.heap.size, fun _ h => h.1, fun k h1 h2 => by have := h2.2; omega, fun _ h1 h2 => ⟨h1, h2⟩⟩
              replace HO_111001 := aK (Kd.S_mono (ok' := fun k_ => some k_ ≠ (.slice (some ⟨go45, 0, none⟩) x111000_1.length co44 : Value).ownBlock ∧ D2_ k_) (Kd.S_bound HO_111001.out) (fun k_ hk => ⟨hk.1.1, hD2c k_ hk.1.2 hk.2.2.1⟩))
              replace HH45 := aK (Kd.H_mono (ok' := fun k_ => some k_ ≠ (.slice (some ⟨go37, 0, none⟩) x111001_1.length co36 : Value).ownBlock ∧ ¬ D2_ k_) HH45.out (fun k_ hk => ⟨hk.1, fun h_ => hk.2 (hD2a k_ h_)⟩))
              refine one_ (i := 13) (N := some 47) #[true, true, true, true, true, true, true, true, true, true, true, true, true, true, false, false] rfl rfl (one_of HT_.out (by kernel_rfl)) (by decide) (fun K hK => ?_)
              refine Kd.R_append_step (Kd.int .i64) (w0 := w) w.heap.size (by rfl) (.tmp 43) (.tmp 46) 31 3 (.int .i64 0) 8 rfl Try.underlying31 info3 rfl (by decide) (by omega) (.slice A118_0 (rd_L3 x111000_1 ((rd_T47 l1 x15_1).f1)).length c118_0) (rd_L3 x111000_1 ((rd_T47 l1 x15_1).f1)) ((rd_T47 l1 x15_1).f0) [.int .i64 ((rd_T47 l1 x15_1).f0)] (fun k_ => oki45 k_ ∨ ((fun k_ => some k_ ≠ (.slice (some ⟨go37, 0, none⟩) x111001_1.length co36 : Value).ownBlock ∧ ¬ D2_ k_)) k_ ∧ w43.heap.size ≤ k_) (fun _ => False) rfl rfl ?aP (fun _ hk => hk.elim) ?aF ?aO ?aB ?aS ?aL ?_
              (case aP => exact rfl)
              (case aB => exact (by repeat (first | (with_reducible first | exact HB.out | apply bA_ | apply bN_ | apply bD_ | refine below_set ?_ GE103.out | refine below_set ?_ GE110.out | refine below_set ?_ GE112.out) | exact HB.out)))
              (case aF => exact (fun k_ hk => .inr ⟨⟨Kd.fresh' (Kd.S_lt (by (with_reducible repeat (first | apply Kd.S_alloc | apply Kd.S_drewN | apply Kd.S_drew)); exact HO_111001.out)) k_ hk, hD2b k_ (by first | exact hk | (have h3_ := hk; simp only [World.alloc, Array.size_push] at h3_; omega))⟩, hk⟩))
              (case aO => exact (by (with_reducible repeat (first | apply Kd.R_alloc | apply Kd.R_drewN | apply Kd.R_drew)); exact Kd.R_mono UU45.out (fun _ hk => .inl hk)))
              (case aS => exact (bZ_ (by repeat (first | (with_reducible first | exact HB.out | apply bA_ | apply bN_ | apply bD_ | refine below_set ?_ GE103.out | refine below_set ?_ GE110.out | refine below_set ?_ GE112.out) | exact HB.out))))
              (case aL => have := LMc28.out; omega)
              intro v120 w46 ho hb hg hat
              (first | have HS4_ := cell_grown hg (hHeld.2.2.2.2) (by first | (rw [add_block]; exact (fun e_ => ((HL118_0.out.1 _ e_.symm).2) rfl)) | (show some (Addr.add _ _).block ≠ _; rw [add_block]; exact (fun e_ => ((HL118_0.out.1 _ e_.symm).2) rfl)) | exact (fun e_ => ((HL118_0.out.1 _ e_.symm).2) rfl)) | have HS4_ := cell_grown hg (cell_unalloc (hHeld.2.2.2.2) (by first | (rw [add_block]; exact Kd.S_lt HO_111000.out _ rfl) | (show (Addr.add _ _).block < _; rw [add_block]; exact Kd.S_lt HO_111000.out _ rfl) | exact Kd.S_lt HO_111000.out _ rfl)) (by first | (rw [add_block]; exact (fun e_ => ((HL118_0.out.1 _ e_.symm).2) rfl)) | (show some (Addr.add _ _).block ≠ _; rw [add_block]; exact (fun e_ => ((HL118_0.out.1 _ e_.symm).2) rfl)) | exact (fun e_ => ((HL118_0.out.1 _ e_.symm).2) rfl)))
              rw [← Ny119.out] at ho
              have n0_ := aK (blk_grown (g := gb103) (o := .cells #[.slice none 0 0, .slice none 0 0] 60 (0, 0)) (by (with_reducible repeat (first | refine blk_drewN ?_ _ | refine blk_drew ?_ | refine blk_alloc ?_ _)); exact BK103.out) hg (Kd.R_ne HL118_0.out BK103.out (by decide)))
              have n1_ := aK (blk_grown (g := gb110) (o := .cells #[.slice (some ⟨go45, 0, none⟩) x111000_1.length co44, .slice (some ⟨go37, 0, none⟩) x111001_1.length co36] 60 (0, 0)) (by (with_reducible repeat (first | refine blk_drewN ?_ _ | refine blk_drew ?_ | refine blk_alloc ?_ _)); exact BK110.out) hg (Kd.R_ne HL118_0.out BK110.out (by decide)))
              have n2_ := aK (blk_grown (g := gb112) (o := .cells #[.int .i64 ((rd_T47 l1 x15_1).f0), .int .i64 ((rd_T47 l1 x15_1).f1)] 47 (0, 0)) (by (with_reducible repeat (first | refine blk_drewN ?_ _ | refine blk_drew ?_ | refine blk_alloc ?_ _)); exact BK112.out) hg (Kd.R_ne HL118_0.out BK112.out (by decide)))
              have n3_ := aK (Kd.S_grown (by (with_reducible repeat (first | apply Kd.S_alloc | apply Kd.S_drewN | apply Kd.S_drew)); exact HO_111001.out) hg (fun k_ ok_ e_ => by exact (hoki45 k_ (UU45.out.1 k_ e_.symm)).1.2 (hD2a k_ ok_.2)))
              have n4_ := aK (hb)
              have n5_ := aK (Kd.H_grown (Kd.H_widen (by repeat (first | exact HH45.out | refine Kd.H_alloc ?_ _ | refine Kd.H_drewN ?_ _ | refine Kd.H_drew ?_))) hg (fun k_ e_ => .inl (UU45.out.1 k_ e_)))
              have n6_ := aK (ho)
              clear BK103; clear BK110; clear BK112; clear HO_111001; clear HB; clear HH45; clear HO_111000; clear UU45; clear HL118_0; have BK103 := n0_; have BK110 := n1_; have BK112 := n2_; have HO_111001 := n3_; have HB := n4_; have HH45 := n5_; have HO121 := n6_; clear n0_ n1_ n2_ n3_ n4_ n5_ n6_; clear ho hb hg hat
              have p29 : 0 ≤ (((rd_T47 l1 x15_1).f1) : Int) := of_decide_eq_true (by first | (with_reducible assumption) | assumption)
              have q29 : (((rd_T47 l1 x15_1).f1) : Int) < ((x111000_1.length : Int) : Int) := of_decide_eq_true (by first | (with_reducible assumption) | assumption)
              replace p29 := eq_true p29; replace q29 := eq_true q29
              obtain ⟨Ao49, co49, eo49⟩ := Kd.R_slice HO121.out
              (first | subst eo49 | (injection eo49 with f1_ f2_ f3_; have f4_ := f1_.symm; have f5_ := f3_.symm; clear f1_ f2_ f3_; subst f4_; subst f5_))
              obtain ⟨_, _, hraw47, _, _, hcc47, _⟩ := Kd.H_raw HH45.out (of_decide_eq_true (by first | (with_reducible assumption) | assumption)) (by have h_ : (((rd_T47 l1 x15_1).f1) : Int) < ((x111000_1.length : Int) : Int) := of_decide_eq_true (by first | (with_reducible assumption) | assumption); first | exact h_ | (have e_ := (HN45.out); omega) | simpa using h_)
              obtain ⟨_, hfr47⟩ := Kd.H_at HH45.out (of_decide_eq_true (by first | (with_reducible assumption) | assumption)) (by have h_ : (((rd_T47 l1 x15_1).f1) : Int) < ((x111000_1.length : Int) : Int) := of_decide_eq_true (by first | (with_reducible assumption) | assumption); first | exact h_ | (have e_ := (HN45.out); omega) | simpa using h_)
              have hx47_0 := hcc47 0 _ rfl
              have hf47_0 := hfr47 0
              (try simp only [Nat.add_zero] at hx47_0 hf47_0)
              (try rw [show ((Kd.slice 3 (Kd.int .i64))).sz = 1 from rfl, Nat.mul_one] at hx47_0)
              (try rw [show ((Kd.slice 3 (Kd.int .i64))).sz = 1 from rfl, Nat.mul_one] at hf47_0)
              have HP47 := Kd.S_seg0 HH45.out (of_decide_eq_true (by first | (with_reducible assumption) | assumption)) (by have h_ : (((rd_T47 l1 x15_1).f1) : Int) < ((x111000_1.length : Int) : Int) := of_decide_eq_true (by first | (with_reducible assumption) | assumption); first | exact h_ | (have e_ := (HN45.out); omega) | simpa using h_) (seg := [.slice Ao49 y119.length co49]) (j := 0) (show 1 ≤ 1 from by decide) (x' := y119) (Kd.M_row HO121.out) (fun _ hk => hk)
              (try simp only [show ((Kd.slice 3 (Kd.int .i64))).sz = 1 from rfl, Nat.mul_one, Nat.add_zero] at HP47)
              clear hcc47 hfr47
              have HNB103_go45 := aK (show gb103 ≠ go45 from by have h_ := Kd.R_ne hraw47 BK103.out (by decide); intro e_; exact h_ (by rw [e_]; rfl))
              have HNB110_go45 := aK (show gb110 ≠ go45 from by have h_ := Kd.R_ne hraw47 BK110.out (by decide); intro e_; exact h_ (by rw [e_]; rfl))
              have HNB112_go45 := aK (show gb112 ≠ go45 from by have h_ := Kd.R_ne hraw47 BK112.out (by decide); intro e_; exact h_ (by rw [e_]; rfl))
              have HS47 := HP47.1
              rw [← Ny122.out] at HS47; have HQ47 := aK HS47
              obtain ⟨_, hgg47⟩ := Kd.R_typed hraw47 go45 rfl
              have GG47_ := aK hgg47; clear HP47 HS47 hgg47
              refine hK.out _ _ ⟨(blk_cell BK110.out 0).trans rfl, (blk_cell BK110.out 1).trans rfl, (blk_cell BK112.out 0).trans rfl, (blk_cell BK112.out 1).trans rfl, HS4_⟩ (fun hHeld => ?_)
              clear hK K
              refine norm_ (a' := ?_) ?_ ?_
              rotate_left
              ·show Act.put _ (some 47) _ = _
               simp only [Act.put, sA_, sZ_, sS_, i64_w, i32_w]; rfl
              refine pure_ (i := 14) (N := some 48) (v := ?_) (a' := ?_) #[true, true, true, true, true, true, true, true, true, true, true, true, true, true, true, false] rfl rfl (any_of HT_.out (by kernel_rfl)) (fun _ _ _ h => h) (Or.inl ⟨by rfl, ?_⟩) ?_ ?_
              rotate_left; ·intro w'; go_simp; with_reducible rfl
              rotate_left; ·simp only [Act.put, sA_, sZ_, sS_, i64_w, i32_w]; rfl
              refine last_ (i := 15) (N := none) #[true, true, true, true, true, true, true, true, true, true, true, true, true, true, true, true] rfl rfl (one_of HT_.out (by kernel_rfl)) (by decide) (fun K hK => ?_)
              refine skip_ (w1 := ?_) (by rfl) rfl ?_ ?_
              rotate_left; ·go_simp; rfl
              refine hK.out _ _ ?_
              clear hK K
              refine done_ (done_of HT_.out (by kernel_rfl)) ?_
              try go_wp2
              go_roundg k1
              case measure => have := HK1.out; omega
              case rel => exact ⟨(wrap64 (x15_1 + 1)), (y122), (y117), (.slice (some ⟨go45, 0, none⟩) x111000_1.length co44), (.slice (some ⟨go37, 0, none⟩) x111001_1.length co36), D2_, (by first | rfl | (simp; done) | (simp [*]; done)), H', ⟨by have := HK1.out; omega⟩, ⟨by (with_reducible repeat (first | apply Kd.S_alloc | apply Kd.S_drewN | apply Kd.S_drew)); exact HQ47.out⟩, ⟨by (with_reducible repeat (first | apply Kd.S_alloc | apply Kd.S_drewN | apply Kd.S_drew)); exact Kd.S_mono (Kd.S_far (p := ⟨go45, (((rd_T47 l1 x15_1).f1) : Int).toNat, none⟩) (Kd.S_mono HO_111001.out (fun k_ hk => (⟨hk, fun e_ => hk.1 (by rw [e_]; rfl)⟩ : _ ∧ k_ ≠ go45))) (fun _ hk => hk.2) (.slice Ao49 y119.length co49)) (fun _ hk => hk.1)⟩, ⟨by (with_reducible repeat (first | refine blk_drewN ?_ _ | refine blk_drew ?_ | refine blk_alloc ?_ _)); refine blk_far ?_ HNB103_go45.out _; (with_reducible repeat (first | refine blk_drewN ?_ _ | refine blk_drew ?_ | refine blk_alloc ?_ _)); exact BK103.out⟩, ⟨by (with_reducible repeat (first | refine blk_drewN ?_ _ | refine blk_drew ?_ | refine blk_alloc ?_ _)); refine blk_far ?_ HNB110_go45.out _; (with_reducible repeat (first | refine blk_drewN ?_ _ | refine blk_drew ?_ | refine blk_alloc ?_ _)); exact BK110.out⟩, ⟨by repeat (first | (with_reducible first | exact HB.out | apply bA_ | apply bN_ | apply bD_ | refine below_set ?_ GB45.out | refine below_set ?_ GE103.out | refine below_set ?_ GE110.out | refine below_set ?_ GE112.out) | exact HB.out)⟩⟩
             ·rw [if_neg c28] at H
              exact absurd H (by simp)
            ·rw [if_neg c27] at H
             exact absurd H (by simp)
           ·rw [if_neg c26] at H
            exact absurd H (by simp)
          ·rw [if_neg c24] at H
           exact absurd H (by simp)
         ·rw [if_neg c23] at H
          exact absurd H (by simp)
        ·rw [if_neg c22] at H
         exact absurd H (by simp)
       ·rw [if_neg c21] at H
        exact absurd H (by simp)
      ·rw [if_neg c20] at H
       exact absurd H (by simp)
     ·rw [if_neg c19] at H
      have c19b0 : decide (x15_1 < (l1.length : Int)) = false := decide_eq_false c19
      clear c19
      simp only [Option.some.injEq, Prod.mk.injEq] at H
      obtain ⟨rfl, rfl⟩ := H
      have hnb50 := NB110_103.out
      have hnc50 := NB103_110.out
      have hcz51_0 : wr.cell? ⟨gb110, 0, none⟩ = some (u111000) := (blk_cell BK110.out 0).trans rfl
      have hcz51_1 : wr.cell? ⟨gb110, 1, none⟩ = some (u111001) := (blk_cell BK110.out 1).trans rfl
      have hfz51_0 := blk_frozen BK110.out 0
      have hfz51_1 := blk_frozen BK110.out 1
      obtain ⟨Ao52, co52, eo52⟩ := Kd.S_slice HO_111000.out
      subst eo52
      have hcz53_0 : wr.cell? ⟨gb103, 0, none⟩ = some (.slice none 0 0) := (blk_cell BK103.out 0).trans rfl
      have hcz53_1 : wr.cell? ⟨gb103, 1, none⟩ = some (.slice none 0 0) := (blk_cell BK103.out 1).trans rfl
      have hfz53_0 := blk_frozen BK103.out 0
      have hfz53_1 := blk_frozen BK103.out 1
      obtain ⟨Ao54, co54, eo54⟩ := Kd.S_slice HO_111001.out
      subst eo54; go_wp2
      refine bodyPost_ret (results_cell_row rfl _ _ gb103 60 #[.slice Ao52 x111000_1.length co52, .slice Ao54 x111001_1.length co54] (0, 0) _ rfl (by (with_reducible repeat (first | refine blk_drewN ?_ _ | refine blk_drew ?_ | refine blk_alloc ?_ _)); refine blk_put (cs := #[.slice Ao52 x111000_1.length co52, .slice none 0 0]) ?_ 1 _ rfl; (with_reducible repeat (first | refine blk_drewN ?_ _ | refine blk_drew ?_ | refine blk_alloc ?_ _)); refine blk_put (cs := #[.slice none 0 0, .slice none 0 0]) ?_ 0 _ rfl; (with_reducible repeat (first | refine blk_drewN ?_ _ | refine blk_drew ?_ | refine blk_alloc ?_ _)); exact BK103.out) Try.underlying60 rfl (by kernel_rfl)) rfl ?_
      exact ⟨_, _, by first | rfl | (simp [errW_none, errW_some] <;> rfl) | (simp [*, errW_none, errW_some] <;> rfl), by (with_reducible repeat (first | apply Kd.S_alloc | apply Kd.S_drewN | apply Kd.S_drew)); exact Kd.S_mono (Kd.S_far (p := ⟨gb103, 1, none⟩) (Kd.S_far (p := ⟨gb103, 0, none⟩) (Kd.S_types HO_111000.out BK103.out (by decide)) (fun _ hk => hk.2) (.slice Ao52 x111000_1.length co52)) (fun _ hk => hk.2) (.slice Ao54 x111001_1.length co54)) (fun _ hk => hk.1.1), by (with_reducible repeat (first | apply Kd.S_alloc | apply Kd.S_drewN | apply Kd.S_drew)); exact Kd.S_mono (Kd.S_far (p := ⟨gb103, 1, none⟩) (Kd.S_far (p := ⟨gb103, 0, none⟩) (Kd.S_types HO_111001.out BK103.out (by decide)) (fun _ hk => hk.2) (.slice Ao52 x111000_1.length co52)) (fun _ hk => hk.2) (.slice Ao54 x111001_1.length co54)) (fun _ hk => hk.1.1), by repeat (first | (with_reducible first | exact HB.out | apply bA_ | apply bN_ | apply bD_ | refine below_set ?_ GE103.out | refine below_set ?_ GE110.out) | exact HB.out)⟩
  ·rw [if_neg c4] at H
   exact absurd H (by simp)
 ·rw [if_neg c3] at H
  exact absurd H (by simp)

end Go.Proofs.Ytbbkclcfmcjlgaa.P
