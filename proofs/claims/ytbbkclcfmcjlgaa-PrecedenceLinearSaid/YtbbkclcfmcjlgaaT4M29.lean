import Derived.Test.YtbbkclcfmcjlgaaT4M28
import Derived.Test.YtbbkclcfmcjlgaaT4M21
import Derived.Test.YtbbkclcfmcjlgaaT4M26
import Derived.Test.YtbbkclcfmcjlgaaT4M27
import Derived.Test.YtbbkclcfmcjlgaaT4M23
/- The contract of precedence.Linear (function 18), by hand: a slice in a captured variable is written. -/

namespace Go.Proofs.Ytbbkclcfmcjlgaa.P
open Go.RowKit Go.Proofs.YtbbkclcfmcjlgaaW.PrintWords Go.Proofs.YtbbkclcfmcjlgaaW.PrintLast Go.Proofs.YtbbkclcfmcjlgaaW.PrintMore
set_option linter.unusedVariables false
set_option linter.unusedSimpArgs false

def gfL (m : List Int) (x y : Int) : Option Bool := if 0 ≤ x ∧ x < m.length ∧ 0 ≤ y ∧ y < m.length then some (decide (rd m x > rd m y)) else none
def lin.l0 (n : Int) (l : List S47) (o : List Int) : Nat → Int → List Int → Option Bool
 | 0, _, _ => none
 | k + 1, i, m => if i < (o.length : Int) then (if 0 ≤ i then (if rd o i < 0 then some false else if rd o i ≥ n then some false else if rd o i < (m.length : Int) then (if rd m (rd o i) > 0 then some false else lin.l0 n l o k (wrap64 (i + 1)) (m.set (rd o i).toNat (wrap64 (i + 1)))) else none) else none) else (idx.l0 (gfL m) l k 0).bind fun r => some (!(decide (r ≥ 0)))
def precedence_Linear.f (k : Nat) (n : Int) (l : List S47) (o : List Int) : Option Bool := (precedence_Valid.f k n l).bind fun e => if e = 0 then (if (o.length : Int) = n then (if 0 ≤ n then (if n.toNat ≤ 35184372088832 then lin.l0 n l o k 0 (List.replicate n.toNat 0) else none) else none) else some false) else some false
set_option maxHeartbeats 8000000 in
set_option maxRecDepth 100000 in
theorem precedence_Linear.calls (k : Nat) (n : Int) (A1 : Option Addr) (c1 : Nat) (l : List S47) (A2 : Option Addr) (c2 : Nat) (o : List Int) (r : Bool) (w : World) (hr1 : Kd.C k47 w A1 l.length l) (hc1 : l.length ≤ c1) (hr2 : Kd.C (Kd.int .i64) w A2 o.length o) (hc2 : o.length ≤ c2) (h : precedence_Linear.f k n l o = some r) :
  Calls Try.prog 18 #[.int .i64 n, .slice A1 l.length c1, .slice A2 o.length c2] w fun e w' => e = .returned (.bool r) ∧ Below w.heap.size w w' := by
 have HR1 := Aside0.mk hr1
 have HC1 := Aside0.mk hc1
 have HR2 := Aside0.mk hr2
 have HC2 := Aside0.mk hc2
 clear hr1 hc1 hr2 hc2
 unfold precedence_Linear.f at h
 obtain ⟨e, he, H⟩ := Option.bind_eq_some_iff.mp h
 have HE := Aside0.mk he
 clear h he
 have HB := Aside0.mk (Below.refl w.heap.size w)
 by_cases z : e = 0
 ·rw [if_pos z] at H; subst z
  by_cases z1 : (o.length : Int) = n
  ·rw [if_pos z1] at H
   have z1b : ((o.length : Int) != n) = false := bne_eq_false_iff_eq.mpr z1
   have z1c : ((o.length : Int) == n) = true := beq_iff_eq.mpr z1
   by_cases z2 : 0 ≤ n
   ·rw [if_pos z2] at H
    by_cases z3 : n.toNat ≤ 35184372088832
    ·rw [if_pos z3] at H
     obtain ⟨y, hy⟩ : ∃ y : List Int, y = List.replicate n.toNat 0 := ⟨_, rfl⟩
     rw [← hy] at H; have NY := Aside0.mk hy; clear hy; have H' := Aside0.mk H; have Z2 := Aside0.mk z2; have Z3 := Aside0.mk z3
     have z2' := eq_true z2
     clear H z1 z2 z3
     go_enter Try.func18, Try.ntmps18
     go_wp2_with (first | (go_at_call 20; go_must ((with_reducible refine (precedence_Valid.calls k n _ _ l 0 _ ?s1 ?s2 HE.out).mono ?_); (case s1 => exact HR1.out); (case s2 => exact HC1.out); rintro e w8 ⟨rfl, hb⟩; have n_ := Aside0.mk hb; clear HB hb; have HB := n_; clear n_)) | ((with_reducible refine gate_dst (N := 21) rfl ?_); go_must (refine Kd.R_make (Kd.int .i64) _ 3 rfl (N := 21) rfl 31 _ _ rfl n rfl rfl Try.underlying31 (.int .i64 0) 8 info3 rfl (by decide) (by omega) 0 (ok := fun _ => True) (okp := fun _ => True) rfl (fun _ hk => hk) trivial Z2.out (Nat.le_trans (Nat.mul_le_mul_right _ Z3.out) (by omega)) (Below.refl _ _) (Nat.le_refl _) ?_; intro va w9 ho hb hg_ hnew_; clear hg_ hnew_; rw [← NY.out] at ho; have n0_ := Aside0.mk (Kd.R_lower ho (below_size (HB.out))); have n1_ := Aside0.mk (below_step HB.out hb); clear HB ho hb; have HO := n0_; have HB := n1_; clear n0_ n1_)) | ((with_reducible refine gate_dst (N := 7) rfl ?_); go_must (refine box_event ?hg (N := 7) ?hd (cs := #[.slice none 0 0]) (t := 31) ?hr ?_; (case hd => rfl); (case hg => rfl); (case hr => first | (go_simp; done) | (go_simp; rfl)); intro g hg w10 hbox hb; have n0_ := Aside0.mk (Kd.R_types (Kd.R_below HO.out hb) hbox (by decide)); have n1_ := Aside0.mk (below_step HB.out hb); have GB := Aside0.mk (by rw [hg]; exact below_size HB.out : w.heap.size ≤ g); have BK := Aside0.mk hbox; have hfz := blk_frozen hbox 0; have hzz : w10.cell? ⟨g, 0, none⟩ = some (.slice none 0 0) := (blk_cell hbox 0).trans rfl; clear HO HB hb hbox hg; have HO := n0_; have HB := n1_; clear n0_ n1_; obtain ⟨Av, cv, ev⟩ := Kd.R_slice HO.out; subst ev)))
     go_loopg [24] k (fun kq v24 w' => ∃ (i : Int) (m : List Int), v24 = .int .i64 i ∧ Aside0 (lin.l0 n l o kq i m = some r) ∧ Aside0 (kq ≤ k) ∧ Aside0 (Kd.R (Kd.int .i64) 3 w' w.heap.size (fun k_ => True ∧ k_ ≠ g) (.slice Av y.length cv) m) ∧ Aside0 (w'.heap[g]? = some (.cells #[.slice Av y.length cv] 31 (0, 0))) ∧ Aside0 (Below w.heap.size w w'))
     case atStart => exact ⟨0, y, rfl, H', ⟨Nat.le_refl _⟩, ⟨Kd.R_far (p := ⟨g, 0, none⟩) HO.out (fun _ hk => hk.2) _⟩, ⟨blk_put (cs := #[.slice none 0 0]) BK.out 0 _ rfl⟩, ⟨below_set HB.out GB.out⟩⟩
     case round =>
      clear H' HO BK HB hfz hzz
      obtain ⟨i, m, rfl, HA, HK1, HO, BK, HB⟩ := hrel
      cases gk with
      | zero => exact absurd HA.out (by simp [lin.l0])
      | succ k1 =>
       have H := HA.out
       clear HA
       simp only [lin.l0] at H
       have hcz : wr.cell? ⟨g, 0, none⟩ = some (.slice Av y.length cv) := (blk_cell BK.out 0).trans rfl
       by_cases q1 : i < (o.length : Int)
       ·rw [if_pos q1] at H
        by_cases q2 : 0 ≤ i
        ·rw [if_pos q2] at H
         obtain ⟨ad, e, hx⟩ := Kd.at_int HR2.out i q2 q1
         cases e
         replace hx := (HB.out.cell (World.block_lt_of_cell? w _ hx)).trans hx
         generalize rd o i = v at H hx
         have q1b := decide_eq_true q1
         have q1' := eq_true q1
         have q2' := eq_true q2
         clear q1 q2
         by_cases r1 : v < 0
         ·rw [if_pos r1] at H; obtain rfl := Option.some.inj H
          have r1b := decide_eq_true r1
          clear r1; go_wp2; go_ret
          exact ⟨rfl, (by repeat (first | (with_reducible first | exact HB.out | apply below_alloc | apply pw_below_drewN | apply below_drew1) | exact HB.out))⟩
         ·rw [if_neg r1] at H
          have r1b := decide_eq_false r1
          have r1c := eq_true (show 0 ≤ v by omega)
          by_cases r2 : v ≥ n
          ·rw [if_pos r2] at H; obtain rfl := Option.some.inj H
           have r2b := decide_eq_true r2
           have r2c : decide (n ≤ v) = true := decide_eq_true r2
           clear r1 r2; go_wp2; go_ret
           exact ⟨rfl, (by repeat (first | (with_reducible first | exact HB.out | apply below_alloc | apply pw_below_drewN | apply below_drew1) | exact HB.out))⟩
          ·rw [if_neg r2] at H
           have r2b := decide_eq_false r2
           have r2c : decide (n ≤ v) = false := decide_eq_false r2
           by_cases r3 : v < (m.length : Int)
           ·rw [if_pos r3] at H
            obtain ⟨hl1, hl2, hl3⟩ := Kd.R_reads' HO.out
            have r3' : v < (y.length : Int) := by omega
            have v0 : 0 ≤ v := by omega
            obtain ⟨go, co, eo, gb, gl, cl, HG⟩ := Kd.R_form HO.out (by omega)
            injection eo with e1 e2 e3
            subst e1; subst e3
            obtain ⟨hm0, hf⟩ := Kd.R_celln 0 HO.out v v0 r3'
            have hm : wr.cell? ⟨go, v.toNat, none⟩ = some (.int .i64 (rd m v)) := hm0
            clear hm0
            have HP := Kd.R_putg HO.out v (wrap64 (i + 1))
            have hgo := HO.out.1 _ rfl
            have GO := Aside0.mk gb
            have v1' := eq_true r3'
            clear r1 r2 r3 r3' v0 e2 hl1 hl2 hl3 gb gl HG
            by_cases r4 : rd m v > 0
            ·rw [if_pos r4] at H; obtain rfl := Option.some.inj H
             have r4b := decide_eq_true r4
             have r4c : decide (0 < rd m v) = true := decide_eq_true r4
             clear r4 HP; go_wp2; go_ret
             exact ⟨rfl, (by repeat (first | (with_reducible first | exact HB.out | apply below_alloc | apply pw_below_drewN | apply below_drew1) | exact HB.out))⟩
            ·rw [if_neg r4] at H
             have r4b := decide_eq_false r4
             have r4c : decide (0 < rd m v) = false := decide_eq_false r4
             have H' := Aside0.mk H; clear H r4
             go_wp2_with ((with_reducible refine gate_store (t := 3) (p := 47) rfl ?_); go_must (refine store_event (t := 3) (p := 47) (v := ?vo_) (w1 := (wr.setCell ⟨go, v.toNat, none⟩ (.int .i64 (wrap64 (i + 1))))) ?hg ?ho ?hn ?hr ?_; (case ho => rfl); (case hg => rfl); (case hn => rfl); (case hr => first | (go_simp; done) | (go_simp; rfl)); intro w45 hw; have n0_ := Aside0.mk (show Kd.R (Kd.int .i64) 3 w45 w.heap.size (fun k_ => True ∧ k_ ≠ g) (.slice (some ⟨go, 0, none⟩) y.length cv) (m.set v.toNat (wrap64 (i + 1))) from (by rw [hw]; exact HP.1)); have n1_ := Aside0.mk (show w45.heap[g]? = some (.cells #[.slice (some ⟨go, 0, none⟩) y.length cv] 31 (0, 0)) from (by rw [hw]; exact blk_far (p := ⟨go, v.toNat, none⟩) BK.out (fun e_ => hgo.2 e_.symm) _)); have n2_ := Aside0.mk (show Below w.heap.size w w45 from (by rw [hw]; exact below_set HB.out GO.out)); clear HO BK HB HP hcz hm hf hw; have HO := n0_; have BK := n1_; have HB := n2_; clear n0_ n1_ n2_))
             go_roundg k1
             case measure => have := HK1.out; omega
             case rel => exact ⟨wrap64 (i + 1), m.set v.toNat (wrap64 (i + 1)), (by first | rfl | (simp; done)), H', ⟨by have := HK1.out; omega⟩, ⟨by (with_reducible repeat (first | apply Kd.R_alloc | apply Kd.R_drewN | apply Kd.R_drew)); exact HO.out⟩, ⟨BK.out⟩, ⟨(by repeat (first | (with_reducible first | exact HB.out | apply below_alloc | apply pw_below_drewN | apply below_drew1) | exact HB.out))⟩⟩
           ·rw [if_neg r3] at H; cases H
        ·rw [if_neg q2] at H; cases H
       ·rw [if_neg q1] at H
        have q1b := decide_eq_false q1
        clear q1
        obtain ⟨x, hx, H⟩ := Option.bind_eq_some_iff.mp H
        obtain rfl := Option.some.inj H
        obtain ⟨hl1, hl2, hl3⟩ := Kd.R_reads' HO.out
        have HX := Aside0.mk hx
        have hclo : ∀ (a b : Int) (t : Bool) (W : World), Below wr.heap.size wr W → gfL m a b = some t → Calls Try.prog 39 #[.agg #[.int .i64 a, .int .i64 b], .pointer (some ⟨g, 0, none⟩)] W fun e w' => e = .returned (.bool t) ∧ Below W.heap.size W w' := by
         intro a b t W hbW hgf
         unfold gfL at hgf
         split at hgf
         ·rename_i hc
          obtain rfl := Option.some.inj hgf
          have hgW : W.heap[g]? = some (.cells #[.slice Av m.length cv] 31 (0, 0)) := by
           rw [← hl1]; exact (hbW.block g (blk_lt BK.out)).trans BK.out
          exact clo39 a b g Av cv m W hgW (Kd.C_below hl3 hbW) hc.1 hc.2.1 hc.2.2.1 hc.2.2.2
         ·cases hgf
        have HCL := Aside0.mk (contains39 (gfL m) (.pointer (some ⟨g, 0, none⟩)) k1 A1 c1 l x wr (Kd.C_below HR1.out HB.out) hclo hx)
        have hmf : ∀ (fn : Fn) (first cap : Array Value) (w : World), (Instr.makeFunc fn first cap).run Try.prog w = .ok (.func fn first cap) w := fun _ _ _ _ => rfl
        clear hclo hl1 hl2 hl3 hx
        go_wp2_with (go_at_call 38; go_must (refine HCL.out.mono ?_; rintro e w' ⟨rfl, hb⟩; have n_ := Aside0.mk (below_step HB.out hb); clear HB hb; have HB := n_; clear n_))
        go_ret
        exact ⟨by first | rfl | (simp; done), (by repeat (first | (with_reducible first | exact HB.out | apply below_alloc | apply pw_below_drewN | apply below_drew1) | exact HB.out))⟩
    ·rw [if_neg z3] at H; cases H
   ·rw [if_neg z2] at H; cases H
  ·rw [if_neg z1] at H; obtain rfl := Option.some.inj H
   have z1b : ((o.length : Int) != n) = true := bne_iff_ne.mpr z1
   have z1c : ((o.length : Int) == n) = false := beq_eq_false_iff_ne.mpr z1
   go_enter Try.func18, Try.ntmps18
   go_wp2_with (go_at_call 20; go_must ((with_reducible refine (precedence_Valid.calls k n _ _ l 0 _ ?s1 ?s2 HE.out).mono ?_); (case s1 => exact HR1.out); (case s2 => exact HC1.out); rintro e w8 ⟨rfl, hb⟩; have n_ := Aside0.mk hb; clear HB hb; have HB := n_; clear n_))
   go_ret
   exact ⟨rfl, by exact HB.out⟩
 ·rw [if_neg z] at H; obtain rfl := Option.some.inj H
  have zb : (e != 0) = true := bne_iff_ne.mpr z
  have zc : (e == 0) = false := beq_eq_false_iff_ne.mpr z
  go_enter Try.func18, Try.ntmps18
  go_wp2_with (go_at_call 20; go_must ((with_reducible refine (precedence_Valid.calls k n _ _ l e _ ?s1 ?s2 HE.out).mono ?_); (case s1 => exact HR1.out); (case s2 => exact HC1.out); rintro e w8 ⟨rfl, hb⟩; have n_ := Aside0.mk hb; clear HB hb; have HB := n_; clear n_))
  go_ret
  exact ⟨rfl, by exact HB.out⟩
theorem idx.mono (gf : Int → Int → Option Bool) (l : List S47) : ∀ k i, LeO (idx.l0 gf l k i) (idx.l0 gf l (k + 1) i) := by
 intro k
 induction k with
 | zero => intro i; exact LeO.none _
 | succ k ih =>
  intro i
  unfold idx.l0
  refine LeO.ite (LeO.ite (LeO.bind (LeO.refl _) (fun t => LeO.ite (LeO.refl _) (ih _))) (LeO.none _)) (LeO.refl _)
theorem lin.mono (n : Int) (l : List S47) (o : List Int) : ∀ k i m, LeO (lin.l0 n l o k i m) (lin.l0 n l o (k + 1) i m) := by
 intro k
 induction k with
 | zero => intro i m; exact LeO.none _
 | succ k ih =>
  intro i m
  unfold lin.l0
  refine LeO.ite (LeO.ite (LeO.ite (LeO.refl _) (LeO.ite (LeO.refl _) (LeO.ite (LeO.ite (LeO.refl _) (ih _ _)) (LeO.none _)))) (LeO.none _)) (LeO.bind (idx.mono _ _ _ _) (fun r => LeO.refl _))
theorem precedence_Linear.mono : ∀ a0 a1 a2 k, LeO (precedence_Linear.f k a0 a1 a2) (precedence_Linear.f (k + 1) a0 a1 a2) := by
 intro a0 a1 a2 k
 unfold precedence_Linear.f
 exact LeO.bind (precedence_Valid.mono _ _ _) (fun t => LeO.ite (LeO.ite (LeO.ite (LeO.ite (lin.mono _ _ _ _ _ _) (LeO.none _)) (LeO.none _)) (LeO.refl _)) (LeO.refl _))
end Go.Proofs.Ytbbkclcfmcjlgaa.P

-- PRINTED by print.py (a twelfth state) out of the translation. Not trusted: Lean checks it.

namespace Go.Proofs.Ytbbkclcfmcjlgaa.P
open Go.RowKit Go.Proofs.YtbbkclcfmcjlgaaW.PrintWords Go.Proofs.YtbbkclcfmcjlgaaW.PrintLast Go.Proofs.YtbbkclcfmcjlgaaW.PrintMore
attribute [local go_sem] max2_int min2_int max_two min_two max_three min_three max_four min_four   -- for this text's walks alone
set_option linter.unusedVariables false
set_option linter.unusedSimpArgs false

/-! ### swarflaw29_PrecedenceLinear: function 4 -/
def swarflaw29_PrecedenceLinear.j0 : Nat → Int → List (S47) → List Int → Bool → Option (Bool)
 | 0, _, _, _, _ => none
 | k + 1, x0, x1, x2, x19 => if x19 = true then ((swarflaw29_awake.f k).bind fun t253 => (some t253)) else ((swarflaw29_cp.f x1).bind fun t254 => ((some (([] : List Int) : List Int)).bind fun y257 => (if y257.length + x2.length < 17592186044416 then ((precedence_Linear.f k x0 t254 (y257 ++ x2)).bind fun t263 => ((swarfref29_Linear.f k x0 x1 x2).bind fun t264 => (some (t263 == t264)))) else (none))))
def swarflaw29_PrecedenceLinear.f (k : Nat) (a0 : Int) (l1 : List (S47)) (l2 : List Int) : Option (Bool) := (swarflaw29_awake.f k).bind fun t251 => (if t251 = true then ((swarflaw29_few.f k a0 30 l1).bind fun t252 => (if t252 = true then (swarflaw29_PrecedenceLinear.j0 k a0 l1 l2 (decide ((l2.length : Int) > 40))) else (swarflaw29_PrecedenceLinear.j0 k a0 l1 l2 true))) else (swarflaw29_PrecedenceLinear.j0 k a0 l1 l2 true))
theorem swarflaw29_PrecedenceLinear.mono_l : ∀ k, (∀ y0 y1 y2 y3, LeO (swarflaw29_PrecedenceLinear.j0 k y0 y1 y2 y3) (swarflaw29_PrecedenceLinear.j0 (k + 1) y0 y1 y2 y3))
 | 0 => fun _ _ _ _ r h => by simp [swarflaw29_PrecedenceLinear.j0] at h
 | k + 1 => by
  have ih0 := swarflaw29_PrecedenceLinear.mono_l k
  ·intro y0 y1 y2 y3
   unfold swarflaw29_PrecedenceLinear.j0
   repeat' first
   | (with_reducible exact ih0 _ _ _ _)
   | (with_reducible exact precedence_Linear.mono _ _ _ _)
   | (with_reducible exact swarflaw29_awake.mono _)
   | (with_reducible exact swarflaw29_few.mono _ _ _ _)
   | (with_reducible exact swarfref29_Linear.mono _ _ _ _)
   | (with_reducible exact LeO.refl _)
   | (with_reducible exact LeO.none _)
   | (with_reducible refine LeO.ite ?_ ?_)
   | (with_reducible refine LeO.bind ?_ (fun _ => ?_))
   | exact ih0 _ _ _ _
   | exact precedence_Linear.mono _ _ _ _
   | exact swarflaw29_awake.mono _
   | exact swarflaw29_few.mono _ _ _ _
   | exact swarfref29_Linear.mono _ _ _ _
   | exact LeO.none _
   | refine LeO.ite ?_ ?_
   | refine LeO.bind ?_ (fun _ => ?_)
theorem swarflaw29_PrecedenceLinear.mono : ∀ a0 a1 a2 k, LeO (swarflaw29_PrecedenceLinear.f k a0 a1 a2) (swarflaw29_PrecedenceLinear.f (k + 1) a0 a1 a2) := by
 intro a0 a1 a2 k
 have ih0 := swarflaw29_PrecedenceLinear.mono_l k
 unfold swarflaw29_PrecedenceLinear.f
 repeat' first
   | (with_reducible exact ih0 _ _ _ _)
   | (with_reducible exact precedence_Linear.mono _ _ _ _)
   | (with_reducible exact swarflaw29_awake.mono _)
   | (with_reducible exact swarflaw29_few.mono _ _ _ _)
   | (with_reducible exact swarfref29_Linear.mono _ _ _ _)
   | (with_reducible exact LeO.refl _)
   | (with_reducible exact LeO.none _)
   | (with_reducible refine LeO.ite ?_ ?_)
   | (with_reducible refine LeO.bind ?_ (fun _ => ?_))
   | exact ih0 _ _ _ _
   | exact precedence_Linear.mono _ _ _ _
   | exact swarflaw29_awake.mono _
   | exact swarflaw29_few.mono _ _ _ _
   | exact swarfref29_Linear.mono _ _ _ _
   | exact LeO.none _
   | refine LeO.ite ?_ ?_
   | refine LeO.bind ?_ (fun _ => ?_)
set_option maxHeartbeats 8000000 in
set_option maxRecDepth 100000 in
theorem swarflaw29_PrecedenceLinear.calls (k : Nat) (a0 : Int) (A1 : Option Addr) (c1 : Nat) (l1 : List (S47)) (A2 : Option Addr) (c2 : Nat) (l2 : List Int) (r : Bool) (w : World) (hr1 : Kd.C k47 w A1 l1.length l1) (hc1 : l1.length ≤ c1) (hr2 : Kd.C (Kd.int .i64) w A2 l2.length l2) (hc2 : l2.length ≤ c2) (h : swarflaw29_PrecedenceLinear.f k a0 l1 l2 = some r) (hr : r = true) :
  Calls Try.prog 4 #[.int .i64 a0, .slice A1 l1.length c1, .slice A2 l2.length c2] w fun e w' => e = .returned (.bool r) ∧ Below w.heap.size w w' := by
 have HRT := Aside0.mk hr
 clear hr
 have HR1 := Aside0.mk hr1
 have HC1 := Aside0.mk hc1
 clear hr1 hc1
 have HR2 := Aside0.mk hr2
 have HC2 := Aside0.mk hc2
 clear hr2 hc2
 have HB := Aside0.mk (Below.refl w.heap.size w)
 have H : ((swarflaw29_awake.f k).bind fun t251 => (if t251 = true then ((swarflaw29_few.f k a0 30 l1).bind fun t252 => (if t252 = true then (swarflaw29_PrecedenceLinear.j0 k a0 l1 l2 (decide ((l2.length : Int) > 40))) else (swarflaw29_PrecedenceLinear.j0 k a0 l1 l2 true))) else (swarflaw29_PrecedenceLinear.j0 k a0 l1 l2 true))) = some r := h
 clear h
 have HC4 := Aside0.mk H
 clear H
 go_enter Try.func4, Try.ntmps4
 go_upto_region 1 with (fail)
 go_cut [19] (fun v19 wc => ∃ (kq : Nat) (x19_3 : Bool), v19 = .bool x19_3 ∧ Aside0 (swarflaw29_PrecedenceLinear.j0 kq a0 l1 l2 x19_3 = some r) ∧ Aside0 (kq ≤ k) ∧ Aside0 (Below w.heap.size w wc))
 case first =>
  have H := HC4.out
  clear HC4; replace H := Option.bind_eq_some_iff.mp H
  obtain ⟨t251, A50, H⟩ := H
  replace H : (if t251 = true then ((swarflaw29_few.f k a0 30 l1).bind fun t252 => (if t252 = true then (swarflaw29_PrecedenceLinear.j0 k a0 l1 l2 (decide ((l2.length : Int) > 40))) else (swarflaw29_PrecedenceLinear.j0 k a0 l1 l2 true))) else (swarflaw29_PrecedenceLinear.j0 k a0 l1 l2 true)) = some r := H
  have A5 := Aside0.mk A50; clear A50
  by_cases c6 : t251 = true
  ·subst c6
   have H1 : ((swarflaw29_few.f k a0 30 l1).bind fun t252 => (if t252 = true then (swarflaw29_PrecedenceLinear.j0 k a0 l1 l2 (decide ((l2.length : Int) > 40))) else (swarflaw29_PrecedenceLinear.j0 k a0 l1 l2 true))) = some r := by rw [if_pos rfl] at H; exact H
   clear H; have H := H1; clear H1; replace H := Option.bind_eq_some_iff.mp H
   obtain ⟨t252, A70, H⟩ := H
   replace H : (if t252 = true then (swarflaw29_PrecedenceLinear.j0 k a0 l1 l2 (decide ((l2.length : Int) > 40))) else (swarflaw29_PrecedenceLinear.j0 k a0 l1 l2 true)) = some r := H
   have A7 := Aside0.mk A70; clear A70
   by_cases c8 : t252 = true
   ·subst c8
    have H1 : (swarflaw29_PrecedenceLinear.j0 k a0 l1 l2 (decide ((l2.length : Int) > 40))) = some r := by rw [if_pos rfl] at H; exact H
    clear H; have H := H1; clear H1; have H' := Aside0.mk H; clear H
    go_wp2_with (first | ((with_reducible refine gate_callee (f := 12) rfl ?_); refine goesL_ (some 7) rfl rfl Try.func12 (by kernel_rfl) rfl #[] rfl (by (try simp only [List.map_toArray, List.map_cons, List.map_nil]); first | done | rfl | (simp only [List.length_drop, List.length_take]; rfl)) ?_; (with_reducible refine (swarflaw29_awake.calls k  true _ A5.out).mono ?_); rintro e w9 ⟨rfl, hb⟩; refine ⟨_, rfl, ?_⟩; have n0_ := Aside0.mk (below_step (by repeat (first | (with_reducible first | exact HB.out | apply below_alloc | apply pw_below_drewN | apply below_drew1) | exact HB.out)) hb); clear HB; have HB := n0_; clear n0_; (try clear hb); (try clear hb2); (try clear hk); (try clear hi)) | (go_at_call 13; (with_reducible refine (swarflaw29_few.calls k a0 30 _ _ l1 true _ ?side1 ?side2 A7.out).mono ?_); (case side1 => repeat (first | exact (Kd.C_below HR1.out HB.out) | (with_reducible refine Kd.C_alloc ?_ _) | (with_reducible refine Kd.C_drewN ?_ _) | (with_reducible refine Kd.C_drew ?_))); (case side2 => exact HC1.out); rintro e w' ⟨rfl, ⟨nd, rfl⟩⟩))
    go_meet
    case rel => exact ⟨_, (decide ((l2.length : Int) > 40)), (by first | rfl | (simp; done) | (simp [*]; done)), H', ⟨by first | omega | exact Nat.le_refl _⟩, ⟨by repeat (first | (with_reducible first | exact HB.out | apply below_alloc | apply pw_below_drewN | apply below_drew1) | exact HB.out)⟩⟩
   ·replace c8 := Bool.eq_false_iff.mpr c8
    subst c8
    have H1 : (swarflaw29_PrecedenceLinear.j0 k a0 l1 l2 true) = some r := by rw [if_neg (show ¬ (false = true) by decide)] at H; exact H
    clear H; have H := H1; clear H1; have H' := Aside0.mk H; clear H
    go_wp2_with (first | ((with_reducible refine gate_callee (f := 12) rfl ?_); refine goesL_ (some 7) rfl rfl Try.func12 (by kernel_rfl) rfl #[] rfl (by (try simp only [List.map_toArray, List.map_cons, List.map_nil]); first | done | rfl | (simp only [List.length_drop, List.length_take]; rfl)) ?_; (with_reducible refine (swarflaw29_awake.calls k  true _ A5.out).mono ?_); rintro e w10 ⟨rfl, hb⟩; refine ⟨_, rfl, ?_⟩; have n0_ := Aside0.mk (below_step (by repeat (first | (with_reducible first | exact HB.out | apply below_alloc | apply pw_below_drewN | apply below_drew1) | exact HB.out)) hb); clear HB; have HB := n0_; clear n0_; (try clear hb); (try clear hb2); (try clear hk); (try clear hi)) | (go_at_call 13; (with_reducible refine (swarflaw29_few.calls k a0 30 _ _ l1 false _ ?side1 ?side2 A7.out).mono ?_); (case side1 => repeat (first | exact (Kd.C_below HR1.out HB.out) | (with_reducible refine Kd.C_alloc ?_ _) | (with_reducible refine Kd.C_drewN ?_ _) | (with_reducible refine Kd.C_drew ?_))); (case side2 => exact HC1.out); rintro e w' ⟨rfl, ⟨nd, rfl⟩⟩))
    go_meet
    case rel => exact ⟨_, (true), (by first | rfl | (simp; done) | (simp [*]; done)), H', ⟨by first | omega | exact Nat.le_refl _⟩, ⟨by repeat (first | (with_reducible first | exact HB.out | apply below_alloc | apply pw_below_drewN | apply below_drew1) | exact HB.out)⟩⟩
  ·replace c6 := Bool.eq_false_iff.mpr c6
   subst c6
   have H1 : (swarflaw29_PrecedenceLinear.j0 k a0 l1 l2 true) = some r := by rw [if_neg (show ¬ (false = true) by decide)] at H; exact H
   clear H; have H := H1; clear H1; have H' := Aside0.mk H; clear H
   go_wp2_with (first | ((with_reducible refine gate_callee (f := 12) rfl ?_); refine goesL_ (some 7) rfl rfl Try.func12 (by kernel_rfl) rfl #[] rfl (by (try simp only [List.map_toArray, List.map_cons, List.map_nil]); first | done | rfl | (simp only [List.length_drop, List.length_take]; rfl)) ?_; (with_reducible refine (swarflaw29_awake.calls k  false _ A5.out).mono ?_); rintro e w11 ⟨rfl, hb⟩; refine ⟨_, rfl, ?_⟩; have n0_ := Aside0.mk (below_step (by repeat (first | (with_reducible first | exact HB.out | apply below_alloc | apply pw_below_drewN | apply below_drew1) | exact HB.out)) hb); clear HB; have HB := n0_; clear n0_; (try clear hb); (try clear hb2); (try clear hk); (try clear hi)))
   go_meet
   case rel => exact ⟨_, (true), (by first | rfl | (simp; done) | (simp [*]; done)), H', ⟨by first | omega | exact Nat.le_refl _⟩, ⟨by repeat (first | (with_reducible first | exact HB.out | apply below_alloc | apply pw_below_drewN | apply below_drew1) | exact HB.out)⟩⟩
 case rest =>
  clear HC4; try clear c1; try clear c2; try clear p2; try clear c4; try clear c6; try clear c8
  obtain ⟨kq, x19_3, rfl, HA, HJ3, HB⟩ := hcut
  cases kq with
  | zero => exact absurd HA.out (by simp [swarflaw29_PrecedenceLinear.j0])
  | succ kj3 =>
   have H := HA.out
   clear HA
   simp only [swarflaw29_PrecedenceLinear.j0] at H
   by_cases c12 : x19_3 = true
   ·subst c12
    have H1 : ((swarflaw29_awake.f kj3).bind fun t253 => (some t253)) = some r := by rw [if_pos rfl] at H; exact H
    clear H; have H := H1; clear H1; replace H := Option.bind_eq_some_iff.mp H
    obtain ⟨t253, A130, H⟩ := H
    replace H : (some t253) = some r := H
    have A13 := Aside0.mk A130; clear A130; obtain rfl := Option.some.inj H
    go_wp2_with (first | ((with_reducible refine gate_callee (f := 12) rfl ?_); refine goesL_ (some 20) rfl rfl Try.func12 (by kernel_rfl) rfl #[] rfl (by (try simp only [List.map_toArray, List.map_cons, List.map_nil]); first | done | rfl | (simp only [List.length_drop, List.length_take]; rfl)) ?_; (with_reducible refine (swarflaw29_awake.calls kj3  t253 _ A13.out).mono ?_); rintro e w14 ⟨rfl, hb⟩; refine ⟨_, rfl, ?_⟩; have n0_ := Aside0.mk (below_step (by repeat (first | (with_reducible first | exact HB.out | apply below_alloc | apply pw_below_drewN | apply below_drew1) | exact HB.out)) hb); clear HB; have HB := n0_; clear n0_; (try clear hb); (try clear hb2); (try clear hk); (try clear hi)))
    go_ret
    exact ⟨by first | rfl | (simp [errW_none, errW_some] <;> rfl) | (simp [*, errW_none, errW_some] <;> rfl), by repeat (first | (with_reducible first | exact HB.out | apply below_alloc | apply pw_below_drewN | apply below_drew1) | exact HB.out)⟩
   ·replace c12 := Bool.eq_false_iff.mpr c12
    subst c12
    have H1 : ((swarflaw29_cp.f l1).bind fun t254 => ((some (([] : List Int) : List Int)).bind fun y257 => (if y257.length + l2.length < 17592186044416 then ((precedence_Linear.f kj3 a0 t254 (y257 ++ l2)).bind fun t263 => ((swarfref29_Linear.f kj3 a0 l1 l2).bind fun t264 => (some (t263 == t264)))) else (none)))) = some r := by rw [if_neg (show ¬ (false = true) by decide)] at H; exact H
    clear H; have H := H1; clear H1; replace H := Option.bind_eq_some_iff.mp H
    obtain ⟨t254, A150, H⟩ := H
    replace H : ((some (([] : List Int) : List Int)).bind fun y257 => (if y257.length + l2.length < 17592186044416 then ((precedence_Linear.f kj3 a0 t254 (y257 ++ l2)).bind fun t263 => ((swarfref29_Linear.f kj3 a0 l1 l2).bind fun t264 => (some (t263 == t264)))) else (none))) = some r := H
    have A15 := Aside0.mk A150; clear A150
    obtain ⟨y257, hy257⟩ : ∃ y_ : List Int, y_ = (([] : List Int)) := ⟨_, rfl⟩
    replace H : (if y257.length + l2.length < 17592186044416 then ((precedence_Linear.f kj3 a0 t254 (y257 ++ l2)).bind fun t263 => ((swarfref29_Linear.f kj3 a0 l1 l2).bind fun t264 => (some (t263 == t264)))) else (none)) = some r := by first | (rw [hy257]; with_reducible exact H) | (have H2_ := (Option.bind_some _ _).symm.trans H; rw [hy257]; with_reducible exact H2_) | (have H2_ := (Option.bind_some _ _).symm.trans H; with_reducible exact H2_) | with_reducible exact H | (rw [hy257]; exact H) | exact H
    have Ny257 := Aside0.mk hy257; clear hy257
    by_cases c16 : y257.length + l2.length < 17592186044416
    ·rw [if_pos c16] at H; have LMc16 := Aside0.mk c16; clear c16
     obtain ⟨y260, hy260⟩ : ∃ y_ : List Int, y_ = (y257 ++ l2) := ⟨_, rfl⟩
     replace H : ((precedence_Linear.f kj3 a0 t254 y260).bind fun t263 => ((swarfref29_Linear.f kj3 a0 l1 l2).bind fun t264 => (some (t263 == t264)))) = some r := by first | (rw [hy260]; with_reducible exact H) | (have H2_ := (Option.bind_some _ _).symm.trans H; rw [hy260]; with_reducible exact H2_) | (have H2_ := (Option.bind_some _ _).symm.trans H; with_reducible exact H2_) | with_reducible exact H | (rw [hy260]; exact H) | exact H
     have Ny260 := Aside0.mk hy260; clear hy260; replace H := Option.bind_eq_some_iff.mp H
     obtain ⟨t263, A170, H⟩ := H
     replace H : ((swarfref29_Linear.f kj3 a0 l1 l2).bind fun t264 => (some (t263 == t264))) = some r := H
     have A17 := Aside0.mk A170; clear A170; replace H := Option.bind_eq_some_iff.mp H
     obtain ⟨t264, A180, H⟩ := H
     replace H : (some (t263 == t264)) = some r := H
     have A18 := Aside0.mk A180; clear A180; obtain rfl := Option.some.inj H
     go_wp2_with (first | ((with_reducible refine gate_callee (f := 15) rfl ?_); refine goesL_ (some 23) rfl rfl Try.func15 (by kernel_rfl) rfl #[.slice A1 l1.length c1] rfl (by (try simp only [List.map_toArray, List.map_cons, List.map_nil]); first | done | rfl | (simp only [List.length_drop, List.length_take]; rfl)) ?_; (with_reducible refine (swarflaw29_cp.calls _ _ l1 t254 _ ?side1 ?side2 A15.out).mono ?_); (case side1 => repeat (first | exact (Kd.C_below HR1.out HB.out) | (with_reducible refine Kd.C_alloc ?_ _) | (with_reducible refine Kd.C_drewN ?_ _) | (with_reducible refine Kd.C_drew ?_))); (case side2 => exact HC1.out); rintro e w19 ⟨v255, rfl, ho0, hb⟩; refine ⟨_, rfl, ?_⟩; have n0_ := Aside0.mk (Kd.R_lower ho0 (below_size (by repeat (first | (with_reducible first | exact HB.out | apply below_alloc | apply pw_below_drewN | apply below_drew1) | exact HB.out)))); have n1_ := Aside0.mk (below_step (by repeat (first | (with_reducible first | exact HB.out | apply below_alloc | apply pw_below_drewN | apply below_drew1) | exact HB.out)) hb); clear HB; have HO256 := n0_; have HB := n1_; clear n0_ n1_; (try clear hb); (try clear hb2); (try clear hk); (try clear hi); (try clear ho0)) | ((with_reducible refine gate_dst (N := 24) rfl ?_); (try (refine gate_guard (by rfl) ?_; dsimp only)); refine Kd.R_lit (Kd.int .i64) _ 3 ?hg (N := 24) ?hd (xs := ([] : List Int)) (inner := []) (ok := fun _ => True) (okp := fun _ => True) ?hr ?hp (fun _ hk => hk) trivial (Below.refl _ _) (Nat.le_refl _) (by simp) ?_; (case hd => rfl); (case hg => rfl); (case hr => first | (go_simp; done) | (go_simp; rfl)); (case hp => exact (Reps.none _ _)); intro v258 w20 ho21 hb hg_ hnew_; clear hg_ hnew_; (first | rw [← Ny257.out] at ho21 | (simp only [Int.reduceToNat] at ho21; rw [← Ny257.out] at ho21)); have n0_ := Aside0.mk (Kd.R_below (by (with_reducible repeat (first | apply Kd.R_alloc | apply Kd.R_drewN | apply Kd.R_drew)); exact HO256.out) hb); have n1_ := Aside0.mk (Kd.R_lower ho21 (below_size (by repeat (first | (with_reducible first | exact HB.out | apply below_alloc | apply pw_below_drewN | apply below_drew1) | exact HB.out)))); have n2_ := Aside0.mk (below_step (by repeat (first | (with_reducible first | exact HB.out | apply below_alloc | apply pw_below_drewN | apply below_drew1) | exact HB.out)) hb); clear HO256; clear HB; have HO256 := n0_; have HO259 := n1_; have HB := n2_; clear n0_ n1_ n2_; clear hb ho21) | ((with_reducible refine gate_builtin (b := .append) (xs := #[.tmp 24, .tmp 25]) rfl ?_); (try (refine gate_guard (by rfl) ?_; dsimp only)); at_builtin; refine Kd.R_append_rows (Kd.int .i64) (w0 := w) w.heap.size rfl (.tmp 24) (.tmp 25) 31 3 (.int .i64 0) 8 rfl Try.underlying31 info3 rfl (by decide) (by omega) v258 y257 l2 _ _ _ (fun _ => True) (fun _ => False) rfl rfl ?aO ?aR (fun _ _ h => h) (fun _ h => h.elim) ?aF ?aB ?aS ?aL ?_; (case aR => repeat (first | exact (Kd.C_below HR2.out HB.out) | (with_reducible refine Kd.C_alloc ?_ _) | (with_reducible refine Kd.C_drewN ?_ _) | (with_reducible refine Kd.C_drew ?_))); (case aB => exact (by repeat (first | (with_reducible first | exact HB.out | apply below_alloc | apply pw_below_drewN | apply below_drew1) | exact HB.out))); (case aF => exact (fun _ _ => trivial)); (case aO => exact (by (with_reducible repeat (first | apply Kd.R_alloc | apply Kd.R_drewN | apply Kd.R_drew)); exact HO259.out)); (case aS => exact (below_size (by repeat (first | (with_reducible first | exact HB.out | apply below_alloc | apply pw_below_drewN | apply below_drew1) | exact HB.out)))); (case aL => have := LMc16.out; omega); intro v261 w22 ho hb hg hat; rw [← Ny260.out] at ho; have n0_ := Aside0.mk (Kd.R_over' (by (with_reducible repeat (first | apply Kd.R_alloc | apply Kd.R_drewN | apply Kd.R_drew)); exact HO256.out) (Kd.R_typed (by (with_reducible repeat (first | apply Kd.R_alloc | apply Kd.R_drewN | apply Kd.R_drew)); exact HO259.out)) (by decide) hg); have n1_ := Aside0.mk (hb); have n2_ := Aside0.mk (ho); clear HO256; clear HB; clear HO259; have HO256 := n0_; have HB := n1_; have HO262 := n2_; clear n0_ n1_ n2_; clear ho hb hg hat; obtain ⟨Ao23, co23, eo23⟩ := Kd.R_slice HO256.out; subst eo23; obtain ⟨Ao24, co24, eo24⟩ := Kd.R_slice HO262.out; subst eo24) | ((with_reducible refine gate_callee (f := 18) rfl ?_); refine goesL_ (some 27) rfl rfl Try.func18 (by kernel_rfl) rfl #[.int .i64 a0, .slice Ao23 t254.length co23, .slice Ao24 y260.length co24] rfl (by (try simp only [List.map_toArray, List.map_cons, List.map_nil]); first | done | rfl | (simp only [List.length_drop, List.length_take]; rfl)) ?_; (with_reducible refine (precedence_Linear.calls kj3 a0 _ _ t254 _ _ y260 t263 _ ?side1 ?side2 ?side3 ?side4 A17.out).mono ?_); (case side1 => repeat (first | exact (Kd.R_reads' HO256.out).2.2 | (with_reducible refine Kd.C_alloc ?_ _) | (with_reducible refine Kd.C_drewN ?_ _) | (with_reducible refine Kd.C_drew ?_))); (case side2 => exact (Kd.R_reads' HO256.out).2.1); (case side3 => repeat (first | exact (Kd.R_reads' HO262.out).2.2 | (with_reducible refine Kd.C_alloc ?_ _) | (with_reducible refine Kd.C_drewN ?_ _) | (with_reducible refine Kd.C_drew ?_))); (case side4 => exact (Kd.R_reads' HO262.out).2.1); rintro e w25 ⟨rfl, hb⟩; refine ⟨_, rfl, ?_⟩; have n0_ := Aside0.mk (Kd.R_below (by (with_reducible repeat (first | apply Kd.R_alloc | apply Kd.R_drewN | apply Kd.R_drew)); exact HO256.out) hb); have n1_ := Aside0.mk (Kd.R_below (by (with_reducible repeat (first | apply Kd.R_alloc | apply Kd.R_drewN | apply Kd.R_drew)); exact HO262.out) hb); have n2_ := Aside0.mk (below_step (by repeat (first | (with_reducible first | exact HB.out | apply below_alloc | apply pw_below_drewN | apply below_drew1) | exact HB.out)) hb); clear HO256; clear HO262; clear HB; have HO256 := n0_; have HO262 := n1_; have HB := n2_; clear n0_ n1_ n2_; (try clear hb); (try clear hb2); (try clear hk); (try clear hi)) | ((with_reducible refine gate_callee (f := 19) rfl ?_); refine goesL_ (some 31) rfl rfl Try.func19 (by kernel_rfl) rfl #[.int .i64 a0, .slice A1 l1.length c1, .slice A2 l2.length c2] rfl (by (try simp only [List.map_toArray, List.map_cons, List.map_nil]); first | done | rfl | (simp only [List.length_drop, List.length_take]; rfl)) ?_; (with_reducible refine (swarfref29_Linear.calls kj3 a0 _ _ l1 _ _ l2 t264 _ ?side1 ?side2 ?side3 ?side4 A18.out).mono ?_); (case side1 => repeat (first | exact (Kd.C_below HR1.out HB.out) | (with_reducible refine Kd.C_alloc ?_ _) | (with_reducible refine Kd.C_drewN ?_ _) | (with_reducible refine Kd.C_drew ?_))); (case side2 => exact HC1.out); (case side3 => repeat (first | exact (Kd.C_below HR2.out HB.out) | (with_reducible refine Kd.C_alloc ?_ _) | (with_reducible refine Kd.C_drewN ?_ _) | (with_reducible refine Kd.C_drew ?_))); (case side4 => exact HC2.out); rintro e w26 ⟨rfl, hb⟩; refine ⟨_, rfl, ?_⟩; have n0_ := Aside0.mk (Kd.R_below (by (with_reducible repeat (first | apply Kd.R_alloc | apply Kd.R_drewN | apply Kd.R_drew)); exact HO256.out) hb); have n1_ := Aside0.mk (Kd.R_below (by (with_reducible repeat (first | apply Kd.R_alloc | apply Kd.R_drewN | apply Kd.R_drew)); exact HO262.out) hb); have n2_ := Aside0.mk (below_step (by repeat (first | (with_reducible first | exact HB.out | apply below_alloc | apply pw_below_drewN | apply below_drew1) | exact HB.out)) hb); clear HO256; clear HO262; clear HB; have HO256 := n0_; have HO262 := n1_; have HB := n2_; clear n0_ n1_ n2_; (try clear hb); (try clear hb2); (try clear hk); (try clear hi)))
     go_ret
     exact ⟨by first | rfl | (simp [errW_none, errW_some] <;> rfl) | (simp [*, errW_none, errW_some] <;> rfl), by repeat (first | (with_reducible first | exact HB.out | apply below_alloc | apply pw_below_drewN | apply below_drew1) | exact HB.out)⟩
    ·rw [if_neg c16] at H
     exact absurd H (by simp)

end Go.Proofs.Ytbbkclcfmcjlgaa.P

/- The examples of the chapter hold, told by the printed function. -/

namespace Go.Proofs.Ytbbkclcfmcjlgaa.B
open Go.RowKit Go.Proofs.Ytbbkclcfmcjlgaa.P Go.Proofs.YtbbkclcfmcjlgaaW.PrintWords Go.Proofs.YtbbkclcfmcjlgaaW.PrintLast
theorem awake_ev : Ev (fun k => swarflaw29_awake.f k) true := Ev.of swarflaw29_awake.mono swarflaw29_awake.small
end Go.Proofs.Ytbbkclcfmcjlgaa.B

/- What the printed functions of relations come to: errors, lists of numbers and pairs, changes. Plain numbers and lists. -/

namespace Go.Proofs.Ytbbkclcfmcjlgaa.B
open Go.RowKit Go.Proofs.Ytbbkclcfmcjlgaa.P Go.Proofs.YtbbkclcfmcjlgaaW.PrintWords Go.Proofs.YtbbkclcfmcjlgaaW.PrintLast Go.Proofs.YtbbkclcfmcjlgaaW.PrintMore
set_option linter.unusedVariables false
set_option linter.unusedSimpArgs false

theorem wrap_mid (x : Int) (h0 : -4000000000000000 ≤ x) (h1 : x ≤ 4000000000000000) : wrap64 x = x := by unfold wrap64; omega
theorem wrap_succ (x : Int) (h0 : 0 ≤ x) (h1 : x ≤ 1000000000000000) : wrap64 (x + 1) = x + 1 := wrap_mid _ (by omega) (by omega)
theorem ev_end {α : Type} {g : Nat → Option α} {r : α} (h : ∀ k, g (k + 1) = some r) : Ev g r := Ev.step (f := fun _ => some r) h (Ev.now r)
def EvP {α : Type} (g : Nat → Option α) (Post : α → Prop) : Prop := ∃ r, Ev g r ∧ Post r
theorem EvP.step {α : Type} {g f : Nat → Option α} {Post : α → Prop} (h : ∀ k, g (k + 1) = f k) (k : EvP f Post) : EvP g Post := by
  obtain ⟨r, h1, h2⟩ := k
  exact ⟨r, Ev.step h h1, h2⟩
theorem EvP.stop {α : Type} {g : Nat → Option α} {Post : α → Prop} (r : α) (h : ∀ k, g (k + 1) = some r) (hp : Post r) : EvP g Post := ⟨r, ev_end h, hp⟩
theorem EvP.bind {α β : Type} {g : Nat → Option α} {f : Nat → α → Option β} {a : α} {Post : β → Prop} (h : Ev g a) (k : EvP (fun n => f n a) Post) : EvP (fun n => (g n).bind (f n)) Post := by
  obtain ⟨r, h1, h2⟩ := k
  exact ⟨r, Ev.bind h h1, h2⟩
theorem EvP.bindP {α β : Type} {g : Nat → Option α} {f : Nat → α → Option β} {P1 : α → Prop} {Post : β → Prop} (h : EvP g P1) (k : ∀ a, P1 a → EvP (fun n => f n a) Post) : EvP (fun n => (g n).bind (f n)) Post := by
  obtain ⟨a, h1, h2⟩ := h
  exact EvP.bind h1 (k a h2)
theorem EvP.mono {α : Type} {g : Nat → Option α} {P Q : α → Prop} (h : EvP g P) (hq : ∀ a, P a → Q a) : EvP g Q := by
  obtain ⟨r, h1, h2⟩ := h
  exact ⟨r, h1, hq _ h2⟩
theorem EvP.same {α : Type} {g f : Nat → Option α} {Post : α → Prop} (h : ∀ k, g k = f k) (k : EvP f Post) : EvP g Post := by
  have : g = f := funext h
  rw [this]; exact k

/-! ### Lists read at places -/
theorem drop_T47 (l : List S47) (j : Int) (h0 : 0 ≤ j) (h : j < (l.length : Int)) : l.drop j.toNat = rd_T47 l j :: l.drop (j + 1).toNat := by
  have h1 : j.toNat < l.length := by omega
  rw [List.drop_eq_getElem_cons h1, show (j + 1).toNat = j.toNat + 1 by omega]
  congr 1
  unfold rd_T47
  simp [List.getD, h1]
theorem drop_rd (l : List Int) (j : Int) (h0 : 0 ≤ j) (h : j < (l.length : Int)) : l.drop j.toNat = rd l j :: l.drop (j + 1).toNat := by
  have h1 : j.toNat < l.length := by omega
  rw [List.drop_eq_getElem_cons h1, show (j + 1).toNat = j.toNat + 1 by omega]
  congr 1
  unfold rd
  simp [List.getD, h1]
theorem drop_end {α : Type} (l : List α) (j : Int) (h : (l.length : Int) ≤ j) : l.drop j.toNat = [] := List.drop_eq_nil_of_le (by omega)

/-! ### The error of a relation -/
def okp (n : Int) (p : S47) : Bool := decide (p.f0 ≠ p.f1) && (decide (0 ≤ p.f0) && decide (p.f0 < n)) && (decide (0 ≤ p.f1) && decide (p.f1 < n))
theorem okp_iff (n : Int) (p : S47) : okp n p = true ↔ p.f0 ≠ p.f1 ∧ (0 ≤ p.f0 ∧ p.f0 < n) ∧ (0 ≤ p.f1 ∧ p.f1 < n) := by simp [okp, and_assoc]
def vErr (n : Int) (l : List S47) : Int := if n > 200 ∨ (l.length : Int) > 2000 then 3 else if n < 0 then 1 else if l.all (okp n) = true then 0 else 1
theorem vErr_zero {n : Int} {l : List S47} (h : vErr n l = 0) : 0 ≤ n ∧ n ≤ 200 ∧ l.length ≤ 2000 ∧ ∀ p ∈ l, okp n p = true := by
  unfold vErr at h
  split at h
  · cases h
  · split at h
    · cases h
    · split at h
      · rename_i h1 h2 h3
        refine ⟨by omega, by omega, by omega, ?_⟩
        rw [List.all_eq_true] at h3
        exact h3
      · cases h
theorem valid_l0 (n : Int) (l : List S47) (hn : l.length ≤ 100000000000000) (d : Nat) : ∀ j : Int, 0 ≤ j → j + d = l.length → Ev (fun k => precedence_Valid.l0 k n l (l.length : Int) j) (if (l.drop j.toNat).all (okp n) = true then 0 else 1) := by
  induction d with
  | zero =>
    intro j h0 hj
    rw [drop_end l j (by omega)]
    exact ev_end (fun k => by simp only [precedence_Valid.l0]; rw [if_neg (by omega)]; rfl)
  | succ d ih =>
    intro j h0 hj
    have hw := wrap_succ j h0 (by omega)
    rw [drop_T47 l j h0 (by omega)]
    generalize hp : rd_T47 l j = p
    by_cases ho : okp n p = true
    · have hi := ih (j + 1) (by omega) (by omega)
      rw [List.all_cons, ho, Bool.true_and]
      refine Ev.step (fun k => ?_) hi
      rw [okp_iff] at ho
      simp only [precedence_Valid.l0]
      rw [if_pos (by omega), if_pos (by omega), if_pos (by omega), hp, if_neg ho.1, if_neg (by unfold mn; split <;> omega), if_neg (by unfold mx; split <;> omega), hw]
    · rw [List.all_cons, show okp n p = false by simpa using ho, Bool.false_and]
      refine ev_end (fun k => ?_)
      rw [okp_iff] at ho
      simp only [precedence_Valid.l0]
      rw [if_pos (by omega), if_pos (by omega), if_pos (by omega), hp]
      by_cases h1 : p.f0 = p.f1
      · rw [if_pos h1]; rfl
      · rw [if_neg h1]
        by_cases h2 : mn p.f0 p.f1 < 0
        · rw [if_pos h2]; rfl
        · rw [if_neg h2, if_pos (by unfold mn at h2; unfold mx; split at h2 <;> split <;> omega)]; rfl
theorem rvalid_l0 (n : Int) (l : List S47) (hn : l.length ≤ 100000000000000) (d : Nat) : ∀ j : Int, 0 ≤ j → j + d = l.length → Ev (fun k => swarfref29_Valid.l0 k n l j) (if (l.drop j.toNat).all (okp n) = true then 0 else 1) := by
  induction d with
  | zero =>
    intro j h0 hj
    rw [drop_end l j (by omega)]
    exact ev_end (fun k => by simp only [swarfref29_Valid.l0]; rw [if_neg (by omega)]; rfl)
  | succ d ih =>
    intro j h0 hj
    have hw := wrap_succ j h0 (by omega)
    rw [drop_T47 l j h0 (by omega)]
    generalize hp : rd_T47 l j = p
    by_cases ho : okp n p = true
    · have hi := ih (j + 1) (by omega) (by omega)
      rw [List.all_cons, ho, Bool.true_and]
      refine Ev.step (fun k => ?_) hi
      rw [okp_iff] at ho
      simp only [swarfref29_Valid.l0]
      rw [if_pos (by omega), if_pos (by omega), hp, if_neg (by omega), if_neg (by omega), if_neg (by omega), if_neg (by omega), if_neg ho.1, hw]
    · rw [List.all_cons, show okp n p = false by simpa using ho, Bool.false_and]
      refine ev_end (fun k => ?_)
      rw [okp_iff] at ho
      simp only [swarfref29_Valid.l0]
      rw [if_pos (by omega), if_pos (by omega), hp]
      by_cases h1 : p.f0 < 0
      · rw [if_pos h1]; rfl
      · rw [if_neg h1]
        by_cases h2 : p.f0 ≥ n
        · rw [if_pos h2]; rfl
        · rw [if_neg h2]
          by_cases h3 : p.f1 < 0
          · rw [if_pos h3]; rfl
          · rw [if_neg h3]
            by_cases h4 : p.f1 ≥ n
            · rw [if_pos h4]; rfl
            · rw [if_neg h4, if_pos (by omega)]; rfl
theorem valid_ev (n : Int) (l : List S47) (hn : l.length ≤ 100000000000000) : Ev (fun k => precedence_Valid.f k n l) (vErr n l) := by
  have h := valid_l0 n l hn l.length 0 (by omega) (by omega)
  rw [show (0 : Int).toNat = 0 from rfl, List.drop_zero] at h
  unfold precedence_Valid.f vErr
  by_cases c : n > 200
  · simp only [if_pos c, if_pos (show n > 200 ∨ (l.length : Int) > 2000 from .inl c)]
    exact ev_end (fun k => by simp [precedence_Valid.j0])
  · simp only [if_neg c]
    by_cases c2 : (l.length : Int) > 2000
    · simp only [if_pos (show n > 200 ∨ (l.length : Int) > 2000 from .inr c2), decide_eq_true c2]
      exact ev_end (fun k => by simp [precedence_Valid.j0])
    · simp only [if_neg (show ¬ (n > 200 ∨ (l.length : Int) > 2000) by omega), decide_eq_false c2]
      by_cases c3 : n < 0
      · simp only [if_pos c3]
        exact ev_end (fun k => by simp [precedence_Valid.j0, c3])
      · simp only [if_neg c3]
        refine Ev.step (fun k => ?_) h
        simp only [precedence_Valid.j0]
        rw [if_neg (by decide), if_neg c3]
theorem rvalid_ev (n : Int) (l : List S47) (hn : l.length ≤ 100000000000000) : Ev (fun k => swarfref29_Valid.f k n l) (vErr n l) := by
  have h := rvalid_l0 n l hn l.length 0 (by omega) (by omega)
  rw [show (0 : Int).toNat = 0 from rfl, List.drop_zero] at h
  unfold swarfref29_Valid.f vErr
  by_cases c : n > 200
  · simp only [if_pos c, if_pos (show n > 200 ∨ (l.length : Int) > 2000 from .inl c)]
    exact ev_end (fun k => by simp [swarfref29_Valid.j0])
  · simp only [if_neg c]
    by_cases c2 : (l.length : Int) > 2000
    · simp only [if_pos (show n > 200 ∨ (l.length : Int) > 2000 from .inr c2), decide_eq_true c2]
      exact ev_end (fun k => by simp [swarfref29_Valid.j0])
    · simp only [if_neg (show ¬ (n > 200 ∨ (l.length : Int) > 2000) by omega), decide_eq_false c2]
      by_cases c3 : n < 0
      · simp only [if_pos c3]
        exact ev_end (fun k => by simp [swarfref29_Valid.j0, c3])
      · simp only [if_neg c3]
        refine Ev.step (fun k => ?_) h
        simp only [swarfref29_Valid.j0]
        rw [if_neg (by decide), if_neg c3]
def fewB (n m : Int) (l : List S47) : Bool := if (l.length : Int) ≤ 60 then (if n ≤ m then true else (vErr n l != 0)) else false
theorem few_ev (n m : Int) (l : List S47) : Ev (fun k => swarflaw29_few.f k n m l) (fewB n m l) := by
  unfold swarflaw29_few.f fewB
  by_cases c : (l.length : Int) ≤ 60
  · simp only [if_pos c]
    by_cases c2 : n ≤ m
    · simp only [if_pos c2]; exact Ev.now _
    · simp only [if_neg c2]
      exact Ev.bind (rvalid_ev n l (by omega)) (Ev.now _)
  · simp only [if_neg c]; exact Ev.now _
theorem cp_eq (l : List S47) (hn : l.length < 8796093022208) : swarflaw29_cp.f l = some l := by
  unfold swarflaw29_cp.f
  simp only [Option.bind_some]
  rw [if_pos (by simpa using hn)]
  rfl

/-! ### Equal lists -/
theorem S47.eta (p q : S47) : p = q ↔ p.f0 = q.f0 ∧ p.f1 = q.f1 := by
  constructor
  · rintro rfl; exact ⟨rfl, rfl⟩
  · cases p; cases q; rintro ⟨rfl, rfl⟩; rfl
instance : DecidableEq S47 := fun p q => if h : p.f0 = q.f0 ∧ p.f1 = q.f1 then isTrue ((S47.eta p q).2 h) else isFalse (fun e => h ((S47.eta p q).1 e))
/-! ### Is it in the list? -/
theorem in_l0 (o : List Int) (hl : o.length ≤ 100000000000000) (x : Int) (d : Nat) : ∀ j : Int, 0 ≤ j → j + d = o.length → Ev (fun k => swarfref29_in.l0 k o x j) (decide (x ∈ o.drop j.toNat)) := by
  induction d with
  | zero =>
    intro j h0 hj
    rw [drop_end o j (by omega)]
    exact ev_end (fun k => by simp only [swarfref29_in.l0]; rw [if_neg (by omega)]; simp)
  | succ d ih =>
    intro j h0 hj
    have hw := wrap_succ j h0 (by omega)
    rw [drop_rd o j h0 (by omega)]
    generalize hy : rd o j = y
    by_cases h : y = x
    · rw [show decide (x ∈ y :: o.drop (j + 1).toNat) = true by simp [h]]
      exact ev_end (fun k => by simp only [swarfref29_in.l0]; rw [if_pos (by omega), if_pos (by omega), hy, if_pos h])
    · rw [show decide (x ∈ y :: o.drop (j + 1).toNat) = decide (x ∈ o.drop (j + 1).toNat) by simp [Ne.symm h]]
      refine Ev.step (fun k => ?_) (ih (j + 1) (by omega) (by omega))
      simp only [swarfref29_in.l0]
      rw [if_pos (by omega), if_pos (by omega), hy, if_neg h, hw]
theorem in_ev (o : List Int) (hl : o.length ≤ 100000000000000) (x : Int) : Ev (fun k => swarfref29_in.f k o x) (decide (x ∈ o)) := by
  unfold swarfref29_in.f
  exact in_l0 o hl x o.length 0 (by omega) (by omega)
/-- All numbers that must come before x are in o. -/
def rdy (l : List S47) (o : List Int) (x : Int) : Bool := l.all fun p => decide (p.f1 = x → p.f0 ∈ o)
theorem rdy_iff (l : List S47) (o : List Int) (x : Int) : rdy l o x = true ↔ ∀ a, (⟨a, x⟩ : S47) ∈ l → a ∈ o := by
  unfold rdy
  rw [List.all_eq_true]
  constructor
  · intro h a ha
    have := h _ ha
    simpa using this
  · intro h p hp
    rw [decide_eq_true_iff]
    intro e
    exact h p.f0 (by rw [← e]; exact hp)
theorem ready_l0 (l : List S47) (hl : l.length ≤ 100000000000000) (o : List Int) (ho : o.length ≤ 100000000000000) (x : Int) (d : Nat) : ∀ j : Int, 0 ≤ j → j + d = l.length → Ev (fun k => swarfref29_ready.l0 k l o x j) (rdy (l.drop j.toNat) o x) := by
  induction d with
  | zero =>
    intro j h0 hj
    rw [drop_end l j (by omega)]
    exact ev_end (fun k => by simp only [swarfref29_ready.l0]; rw [if_neg (by omega)]; rfl)
  | succ d ih =>
    intro j h0 hj
    have hw := wrap_succ j h0 (by omega)
    rw [drop_T47 l j h0 (by omega)]
    generalize hy : rd_T47 l j = y
    have hi := ih (j + 1) (by omega) (by omega)
    by_cases h : y.f1 = x
    · by_cases h2 : y.f0 ∈ o
      · rw [show rdy (y :: l.drop (j + 1).toNat) o x = rdy (l.drop (j + 1).toNat) o x by simp [rdy, h2]]
        refine Ev.step (f := fun k => (swarfref29_in.f k o y.f0).bind fun t241 => if t241 = true then swarfref29_ready.l0 k l o x (j + 1) else some false) (fun k => ?_) (Ev.bind (in_ev o ho y.f0) ?_)
        · simp only [swarfref29_ready.l0]
          rw [if_pos (by omega), if_pos (by omega), hy, if_pos h, hw]
        · simp only [h2, decide_true, if_true]; exact hi
      · rw [show rdy (y :: l.drop (j + 1).toNat) o x = false by simp [rdy, h2, h]]
        refine Ev.step (f := fun k => (swarfref29_in.f k o y.f0).bind fun t241 => if t241 = true then swarfref29_ready.l0 k l o x (j + 1) else some false) (fun k => ?_) (Ev.bind (in_ev o ho y.f0) ?_)
        · simp only [swarfref29_ready.l0]
          rw [if_pos (by omega), if_pos (by omega), hy, if_pos h, hw]
        · simp only [h2, decide_false]; exact Ev.now _
    · rw [show rdy (y :: l.drop (j + 1).toNat) o x = rdy (l.drop (j + 1).toNat) o x by simp [rdy, h]]
      refine Ev.step (fun k => ?_) hi
      simp only [swarfref29_ready.l0]
      rw [if_pos (by omega), if_pos (by omega), hy, if_neg h, hw]
theorem ready_ev (l : List S47) (hl : l.length ≤ 100000000000000) (o : List Int) (ho : o.length ≤ 100000000000000) (x : Int) : Ev (fun k => swarfref29_ready.f k l o x) (rdy l o x) := by
  unfold swarfref29_ready.f
  exact ready_l0 l hl o ho x l.length 0 (by omega) (by omega)
end Go.Proofs.Ytbbkclcfmcjlgaa.B

/- Chains, cycles and orders of relations over whole numbers. Plain numbers and lists. -/
namespace Go.Proofs.Ytbbkclcfmcjlgaa.Gr
set_option linter.unusedVariables false

/-! ### Chains -/
inductive Tc (R : Int → Int → Prop) : Int → Int → Prop
  | one {a b : Int} : R a b → Tc R a b
  | step {a c b : Int} : R a c → Tc R c b → Tc R a b
section
variable {R R' : Int → Int → Prop} {n a b c : Int}
theorem Tc.trans (h : Tc R a b) : Tc R b c → Tc R a c := by
  induction h with
  | one h => exact fun k => .step h k
  | step h _ ih => exact fun k => .step h (ih k)
theorem Tc.mono (hr : ∀ a b, R a b → R' a b) (h : Tc R a b) : Tc R' a b := by
  induction h with
  | one h => exact .one (hr _ _ h)
  | step h _ ih => exact .step (hr _ _ h) ih
/-- All numbers of the relation lie between 0 and n. -/
def Inn (R : Int → Int → Prop) (n : Int) : Prop := ∀ a b, R a b → (0 ≤ a ∧ a < n) ∧ (0 ≤ b ∧ b < n)
theorem Tc.head (h : Tc R a b) : ∃ c, R a c ∧ (c = b ∨ Tc R c b) := by
  cases h with
  | one h => exact ⟨_, h, .inl rfl⟩
  | step h k => exact ⟨_, h, .inr k⟩
/-! ### Chains whose inner numbers lie below k -/
inductive Pk (R : Int → Int → Prop) (k : Int) : Int → Int → Prop
  | one {a b : Int} : R a b → Pk R k a b
  | step {a c b : Int} : R a c → c < k → Pk R k c b → Pk R k a b
variable {k : Int}
theorem Pk.mono {k' : Int} (hk : k ≤ k') (h : Pk R k a b) : Pk R k' a b := by
  induction h with
  | one h => exact .one h
  | step h hc _ ih => exact .step h (by omega) ih
theorem Pk.split (h : Pk R (k + 1) a b) : Pk R k a b ∨ (Pk R k a k ∧ Pk R k k b) := by
  induction h with
  | one h => exact .inl (.one h)
  | @step a c b h hc _ ih =>
    by_cases e : c = k
    · subst e
      rcases ih with ih | ih
      · exact .inr ⟨.one h, ih⟩
      · exact .inr ⟨.one h, ih.2⟩
    · have hc' : c < k := by omega
      rcases ih with ih | ih
      · exact .inl (.step h hc' ih)
      · exact .inr ⟨.step h hc' ih.1, ih.2⟩
theorem Pk.zero (hr : Inn R n) (h : Pk R 0 a b) : R a b := by
  cases h with
  | one h => exact h
  | step h hc _ => have := (hr _ _ h).2.1; omega
end

/-! ### Numbers below n -/
theorem pig (n : Nat) : ∀ o : List Int, o.Nodup → (∀ x ∈ o, 0 ≤ x ∧ x < (n : Int)) → o.length ≤ n := by
  induction n with
  | zero =>
    intro o _ h
    cases o with
    | nil => exact Nat.le_refl _
    | cons x o => have := h x List.mem_cons_self; omega
  | succ n ih =>
    intro o hd h
    by_cases hm : (n : Int) ∈ o
    · have h1 := ih (o.erase (n : Int)) (hd.erase _) (fun x hx => by
        have h2 := (hd.mem_erase_iff).1 hx
        have h3 := h x h2.2
        have : x ≠ (n : Int) := h2.1
        omega)
      rw [List.length_erase_of_mem hm] at h1
      omega
    · have h1 := ih o hd (fun x hx => by
        have h3 := h x hx
        have : x ≠ (n : Int) := fun e => hm (e ▸ hx)
        omega)
      omega
theorem full_in {n : Int} {o : List Int} (hd : o.Nodup) (h : ∀ x ∈ o, 0 ≤ x ∧ x < n) (hl : (o.length : Int) = n) (i : Int) (h0 : 0 ≤ i) (hi : i < n) : i ∈ o := by
  by_cases hm : i ∈ o
  · exact hm
  · have := pig n.toNat (i :: o) (List.nodup_cons.2 ⟨hm, hd⟩) (fun x hx => by
      rcases List.mem_cons.1 hx with rfl | hx
      · omega
      · have := h x hx; omega)
    simp only [List.length_cons] at this
    omega

/-! ### Orders -/
/-- Whatever must come before a number of o stands before it in o. -/
def Topo (R : Int → Int → Prop) (o : List Int) : Prop := ∀ (i : Nat) (x : Int), o[i]? = some x → ∀ j, R j x → j ∈ o.take i
/-! ### The least relation with the same chains -/
end Go.Proofs.Ytbbkclcfmcjlgaa.Gr
