import Derived.Test.YtbbkclcfmcjlgaaT7M30
import Derived.Test.YtbbkclcfmcjlgaaT7M21
import Derived.Test.YtbbkclcfmcjlgaaT7M29
import Derived.Test.YtbbkclcfmcjlgaaT7Px35
import Derived.Test.YtbbkclcfmcjlgaaT7M25
import Derived.Test.YtbbkclcfmcjlgaaT7M27


namespace Go.Proofs.Ytbbkclcfmcjlgaa.P
open Go.RowKit Go.Proofs.YtbbkclcfmcjlgaaW.PrintWords Go.Proofs.YtbbkclcfmcjlgaaW.PrintLast Go.Proofs.YtbbkclcfmcjlgaaW.PrintMore
set_option linter.unusedVariables false
set_option linter.unusedSimpArgs false

def gfL (m : List Int) (x y : Int) : Option Bool := if 0 ≤ x ∧ x < m.length ∧ 0 ≤ y ∧ y < m.length then some (decide (rd m x > rd m y)) else none
def lin.l0 (n : Int) (l : List S47) (o : List Int) : Nat → Int → List Int → Option Bool
 | 0, _, _ => none
 | k + 1, i, m => if i < (o.length : Int) then (if 0 ≤ i then (if rd o i < 0 then some false else if rd o i ≥ n then some false else if rd o i < (m.length : Int) then (if rd m (rd o i) > 0 then some false else lin.l0 n l o k (wrap64 (i + 1)) (m.set (rd o i).toNat (wrap64 (i + 1)))) else none) else none) else (idx.l0 (gfL m) l k 0).bind fun r => some (!(decide (r ≥ 0)))
def precedence_Linear.f (k : Nat) (n : Int) (l : List S47) (o : List Int) : Option Bool := (precedence_Valid.f k n l).bind fun e => if e = 0 then (if (o.length : Int) = n then (if 0 ≤ n then (if n.toNat ≤ 35184372088832 then lin.l0 n l o k 0 (List.replicate n.toNat 0) else none) else none) else some false) else some false
set_option maxHeartbeats 8000000 in
set_option maxRecDepth 100000 in
theorem precedence_Linear.calls (k : Nat) (n : Int) (A1 : Option Addr) (c1 : Nat) (l : List S47) (A2 : Option Addr) (c2 : Nat) (o : List Int) (r : Bool) (w : World) (hr1 : Kd.C k47 w A1 l.length l) (hc1 : l.length ≤ c1) (hr2 : Kd.C (Kd.int .i64) w A2 o.length o) (hc2 : o.length ≤ c2) (h : precedence_Linear.f k n l o = some r) :
  Calls Try.prog 18 #[.int .i64 n, .slice A1 l.length c1, .slice A2 o.length c2] w fun e w' => e = .returned (.bool r) ∧ Below w.heap.size w w' := by
 have HR1 := aK hr1
 have HC1 := aK hc1
 have HR2 := aK hr2
 have HC2 := aK hc2
 clear hr1 hc1 hr2 hc2
 unfold precedence_Linear.f at h
 obtain ⟨e, he, H⟩ := oB_ h
 have HE := aK he
 clear h he
 have HB := aK (Below.refl w.heap.size w)
 by_cases z : e = 0
 ·rw [if_pos z] at H; subst z
  by_cases z1 : (o.length : Int) = n
  ·rw [if_pos z1] at H
   have z1b : ((o.length : Int) != n) = false := bne_eq_false_iff_eq.mpr z1
   have z1c : ((o.length : Int) == n) = true := beq_iff_eq.mpr z1
   by_cases z2 : 0 ≤ n
   ·rw [if_pos z2] at H
    by_cases z3 : n.toNat ≤ 35184372088832
    ·rw [if_pos z3] at H
     obtain ⟨y, hy⟩ : ∃ y : List Int, y = List.replicate n.toNat 0 := ⟨_, rfl⟩
     rw [← hy] at H; have NY := aK hy; clear hy; have H' := aK H; have Z2 := aK z2; have Z3 := aK z3
     have z2' := eq_true z2
     clear H z1 z2 z3
     go_enter Try.func18, Try.ntmps18
     go_wp2_with (first | (go_at_call 20; go_must ((with_reducible refine (precedence_Valid.calls k n _ _ l 0 _ ?s1 ?s2 HE.out).mono ?_); (case s1 => exact HR1.out); (case s2 => exact HC1.out); rintro e w8 ⟨rfl, hb⟩; have n_ := aK hb; clear HB hb; have HB := n_; clear n_)) | ((with_reducible refine gate_dst (N := 21) rfl ?_); go_must (refine Kd.R_make (Kd.int .i64) _ 3 rfl (N := 21) rfl 31 _ _ rfl n rfl rfl Try.underlying31 (.int .i64 0) 8 info3 rfl (by decide) (by omega) 0 (ok := fun _ => True) (okp := fun _ => True) rfl (fun _ hk => hk) trivial Z2.out (Nat.le_trans (Nat.mul_le_mul_right _ Z3.out) (by omega)) (Below.refl _ _) (Nat.le_refl _) ?_; intro va w9 ho hb hg_ hnew_; clear hg_ hnew_; rw [← NY.out] at ho; have n0_ := aK (Kd.R_lower ho (bZ_ (HB.out))); have n1_ := aK (bT_ HB.out hb); clear HB ho hb; have HO := n0_; have HB := n1_; clear n0_ n1_)) | ((with_reducible refine gate_dst (N := 7) rfl ?_); go_must (refine box_event ?hg (N := 7) ?hd (cs := #[.slice none 0 0]) (t := 31) ?hr ?_; (case hd => rfl); (case hg => rfl); (case hr => first | (go_simp; done) | (go_simp; rfl)); intro g hg w10 hbox hb; have n0_ := aK (Kd.R_types (Kd.R_below HO.out hb) hbox (by decide)); have n1_ := aK (bT_ HB.out hb); have GB := aK (by rw [hg]; exact bZ_ HB.out : w.heap.size ≤ g); have BK := aK hbox; have hfz := blk_frozen hbox 0; have hzz : w10.cell? ⟨g, 0, none⟩ = some (.slice none 0 0) := (blk_cell hbox 0).trans rfl; clear HO HB hb hbox hg; have HO := n0_; have HB := n1_; clear n0_ n1_; obtain ⟨Av, cv, ev⟩ := Kd.R_slice HO.out; subst ev)))
     go_loopg [24] k (fun kq v24 w' => ∃ (i : Int) (m : List Int), v24 = .int .i64 i ∧ Aside0 (lin.l0 n l o kq i m = some r) ∧ Aside0 (kq ≤ k) ∧ Aside0 (Kd.R (Kd.int .i64) 3 w' w.heap.size (fun k_ => True ∧ k_ ≠ g) (.slice Av y.length cv) m) ∧ Aside0 (w'.heap[g]? = some (.cells #[.slice Av y.length cv] 31 (0, 0))) ∧ Aside0 (Below w.heap.size w w'))
     case atStart => exact ⟨0, y, rfl, H', ⟨Nat.le_refl _⟩, ⟨Kd.R_far (p := ⟨g, 0, none⟩) HO.out (fun _ hk => hk.2) _⟩, ⟨blk_put (cs := #[.slice none 0 0]) BK.out 0 _ rfl⟩, ⟨below_set HB.out GB.out⟩⟩
     case round =>
      clear H' HO BK HB hfz hzz
      obtain ⟨i, m, rfl, HA, HK1, HO, BK, HB⟩ := hrel
      cases gk with
      | zero => exact absurd HA.out (by simp [lin.l0])
      | succ k1 =>
       have H := HA.out
       clear HA
       simp only [lin.l0] at H
       have hcz : wr.cell? ⟨g, 0, none⟩ = some (.slice Av y.length cv) := (blk_cell BK.out 0).trans rfl
       by_cases q1 : i < (o.length : Int)
       ·rw [if_pos q1] at H
        by_cases q2 : 0 ≤ i
        ·rw [if_pos q2] at H
         obtain ⟨ad, e, hx⟩ := Kd.at_int HR2.out i q2 q1
         cases e
         replace hx := (HB.out.cell (World.block_lt_of_cell? w _ hx)).trans hx
         generalize rd o i = v at H hx
         have q1b := decide_eq_true q1
         have q1' := eq_true q1
         have q2' := eq_true q2
         clear q1 q2
         by_cases r1 : v < 0
         ·rw [if_pos r1] at H; obtain rfl := Option.some.inj H
          have r1b := decide_eq_true r1
          clear r1; go_wp2; go_ret
          exact ⟨rfl, (by repeat (first | (with_reducible first | exact HB.out | apply bA_ | apply bN_ | apply bD_) | exact HB.out))⟩
         ·rw [if_neg r1] at H
          have r1b := decide_eq_false r1
          have r1c := eq_true (show 0 ≤ v by omega)
          by_cases r2 : v ≥ n
          ·rw [if_pos r2] at H; obtain rfl := Option.some.inj H
           have r2b := decide_eq_true r2
           have r2c : decide (n ≤ v) = true := decide_eq_true r2
           clear r1 r2; go_wp2; go_ret
           exact ⟨rfl, (by repeat (first | (with_reducible first | exact HB.out | apply bA_ | apply bN_ | apply bD_) | exact HB.out))⟩
          ·rw [if_neg r2] at H
           have r2b := decide_eq_false r2
           have r2c : decide (n ≤ v) = false := decide_eq_false r2
           by_cases r3 : v < (m.length : Int)
           ·rw [if_pos r3] at H
            obtain ⟨hl1, hl2, hl3⟩ := Kd.R_reads' HO.out
            have r3' : v < (y.length : Int) := by omega
            have v0 : 0 ≤ v := by omega
            obtain ⟨go, co, eo, gb, gl, cl, HG⟩ := Kd.R_form HO.out (by omega)
            injection eo with e1 e2 e3
            subst e1; subst e3
            obtain ⟨hm0, hf⟩ := Kd.R_celln 0 HO.out v v0 r3'
            have hm : wr.cell? ⟨go, v.toNat, none⟩ = some (.int .i64 (rd m v)) := hm0
            clear hm0
            have HP := Kd.R_putg HO.out v (wrap64 (i + 1))
            have hgo := HO.out.1 _ rfl
            have GO := aK gb
            have v1' := eq_true r3'
            clear r1 r2 r3 r3' v0 e2 hl1 hl2 hl3 gb gl HG
            by_cases r4 : rd m v > 0
            ·rw [if_pos r4] at H; obtain rfl := Option.some.inj H
             have r4b := decide_eq_true r4
             have r4c : decide (0 < rd m v) = true := decide_eq_true r4
             clear r4 HP; go_wp2; go_ret
             exact ⟨rfl, (by repeat (first | (with_reducible first | exact HB.out | apply bA_ | apply bN_ | apply bD_) | exact HB.out))⟩
            ·rw [if_neg r4] at H
             have r4b := decide_eq_false r4
             have r4c : decide (0 < rd m v) = false := decide_eq_false r4
             have H' := aK H; clear H r4
             go_wp2_with ((with_reducible refine gate_store (t := 3) (p := 47) rfl ?_); go_must (refine store_event (t := 3) (p := 47) (v := ?vo_) (w1 := (wr.setCell ⟨go, v.toNat, none⟩ (.int .i64 (wrap64 (i + 1))))) ?hg ?ho ?hn ?hr ?_; (case ho => rfl); (case hg => rfl); (case hn => rfl); (case hr => first | (go_simp; done) | (go_simp; rfl)); intro w45 hw; have n0_ := aK (show Kd.R (Kd.int .i64) 3 w45 w.heap.size (fun k_ => True ∧ k_ ≠ g) (.slice (some ⟨go, 0, none⟩) y.length cv) (m.set v.toNat (wrap64 (i + 1))) from (by rw [hw]; exact HP.1)); have n1_ := aK (show w45.heap[g]? = some (.cells #[.slice (some ⟨go, 0, none⟩) y.length cv] 31 (0, 0)) from (by rw [hw]; exact blk_far (p := ⟨go, v.toNat, none⟩) BK.out (fun e_ => hgo.2 e_.symm) _)); have n2_ := aK (show Below w.heap.size w w45 from (by rw [hw]; exact below_set HB.out GO.out)); clear HO BK HB HP hcz hm hf hw; have HO := n0_; have BK := n1_; have HB := n2_; clear n0_ n1_ n2_))
             go_roundg k1
             case measure => have := HK1.out; omega
             case rel => exact ⟨wrap64 (i + 1), m.set v.toNat (wrap64 (i + 1)), (by first | rfl | (simp; done)), H', ⟨by have := HK1.out; omega⟩, ⟨by (with_reducible repeat (first | apply Kd.R_alloc | apply Kd.R_drewN | apply Kd.R_drew)); exact HO.out⟩, ⟨BK.out⟩, ⟨(by repeat (first | (with_reducible first | exact HB.out | apply bA_ | apply bN_ | apply bD_) | exact HB.out))⟩⟩
           ·rw [if_neg r3] at H; cases H
        ·rw [if_neg q2] at H; cases H
       ·rw [if_neg q1] at H
        have q1b := decide_eq_false q1
        clear q1
        obtain ⟨x, hx, H⟩ := oB_ H
        obtain rfl := Option.some.inj H
        obtain ⟨hl1, hl2, hl3⟩ := Kd.R_reads' HO.out
        have HX := aK hx
        have hclo : ∀ (a b : Int) (t : Bool) (W : World), Below wr.heap.size wr W → gfL m a b = some t → Calls Try.prog 39 #[.agg #[.int .i64 a, .int .i64 b], .pointer (some ⟨g, 0, none⟩)] W fun e w' => e = .returned (.bool t) ∧ Below W.heap.size W w' := by
         intro a b t W hbW hgf
         unfold gfL at hgf
         split at hgf
         ·rename_i hc
          obtain rfl := Option.some.inj hgf
          have hgW : W.heap[g]? = some (.cells #[.slice Av m.length cv] 31 (0, 0)) := by
           rw [← hl1]; exact (hbW.block g (blk_lt BK.out)).trans BK.out
          exact clo39 a b g Av cv m W hgW (Kd.C_below hl3 hbW) hc.1 hc.2.1 hc.2.2.1 hc.2.2.2
         ·cases hgf
        have HCL := aK (contains39 (gfL m) (.pointer (some ⟨g, 0, none⟩)) k1 A1 c1 l x wr (Kd.C_below HR1.out HB.out) hclo hx)
        have hmf : ∀ (fn : Fn) (first cap : Array Value) (w : World), (Instr.makeFunc fn first cap).run Try.prog w = .ok (.func fn first cap) w := fun _ _ _ _ => rfl
        clear hclo hl1 hl2 hl3 hx
        go_wp2_with (go_at_call 38; go_must (refine HCL.out.mono ?_; rintro e w' ⟨rfl, hb⟩; have n_ := aK (bT_ HB.out hb); clear HB hb; have HB := n_; clear n_))
        go_ret
        exact ⟨by first | rfl | (simp; done), (by repeat (first | (with_reducible first | exact HB.out | apply bA_ | apply bN_ | apply bD_) | exact HB.out))⟩
    ·rw [if_neg z3] at H; cases H
   ·rw [if_neg z2] at H; cases H
  ·rw [if_neg z1] at H; obtain rfl := Option.some.inj H
   have z1b : ((o.length : Int) != n) = true := bne_iff_ne.mpr z1
   have z1c : ((o.length : Int) == n) = false := beq_eq_false_iff_ne.mpr z1
   go_enter Try.func18, Try.ntmps18
   go_wp2_with (go_at_call 20; go_must ((with_reducible refine (precedence_Valid.calls k n _ _ l 0 _ ?s1 ?s2 HE.out).mono ?_); (case s1 => exact HR1.out); (case s2 => exact HC1.out); rintro e w8 ⟨rfl, hb⟩; have n_ := aK hb; clear HB hb; have HB := n_; clear n_))
   go_ret
   exact ⟨rfl, by exact HB.out⟩
 ·rw [if_neg z] at H; obtain rfl := Option.some.inj H
  have zb : (e != 0) = true := bne_iff_ne.mpr z
  have zc : (e == 0) = false := beq_eq_false_iff_ne.mpr z
  go_enter Try.func18, Try.ntmps18
  go_wp2_with (go_at_call 20; go_must ((with_reducible refine (precedence_Valid.calls k n _ _ l e _ ?s1 ?s2 HE.out).mono ?_); (case s1 => exact HR1.out); (case s2 => exact HC1.out); rintro e w8 ⟨rfl, hb⟩; have n_ := aK hb; clear HB hb; have HB := n_; clear n_))
  go_ret
  exact ⟨rfl, by exact HB.out⟩
theorem idx.mono (gf : Int → Int → Option Bool) (l : List S47) : ∀ k i, LeO (idx.l0 gf l k i) (idx.l0 gf l (k + 1) i) := by
 intro k
 induction k with
 | zero => intro i; exact LeO.none _
 | succ k ih =>
  intro i
  unfold idx.l0
  refine LeO.ite (LeO.ite (LeO.bind (LeO.refl _) (fun t => LeO.ite (LeO.refl _) (ih _))) (LeO.none _)) (LeO.refl _)
theorem lin.mono (n : Int) (l : List S47) (o : List Int) : ∀ k i m, LeO (lin.l0 n l o k i m) (lin.l0 n l o (k + 1) i m) := by
 intro k
 induction k with
 | zero => intro i m; exact LeO.none _
 | succ k ih =>
  intro i m
  unfold lin.l0
  refine LeO.ite (LeO.ite (LeO.ite (LeO.refl _) (LeO.ite (LeO.refl _) (LeO.ite (LeO.ite (LeO.refl _) (ih _ _)) (LeO.none _)))) (LeO.none _)) (LeO.bind (idx.mono _ _ _ _) (fun r => LeO.refl _))
end Go.Proofs.Ytbbkclcfmcjlgaa.P



namespace Go.Proofs.Ytbbkclcfmcjlgaa.B
open Go.RowKit Go.Proofs.Ytbbkclcfmcjlgaa.P Go.Proofs.Ytbbkclcfmcjlgaa.Gr Go.Proofs.YtbbkclcfmcjlgaaW.PrintWords Go.Proofs.YtbbkclcfmcjlgaaW.PrintLast Go.Proofs.YtbbkclcfmcjlgaaW.PrintMore
set_option linter.unusedVariables false
set_option linter.unusedSimpArgs false

theorem Lst.take {n : Int} {l : List S47} {o : List Int} (h : Lst n l o) (i : Nat) : Lst n l (o.take i) := by
 refine ⟨h.1.sublist (List.take_sublist _ _), fun x hx => h.2.1 x (List.mem_of_mem_take hx), fun k x hx j hj => ?_⟩
 rw [List.getElem?_take] at hx
 split at hx
 ·rename_i hk
  rw [List.take_take, Nat.min_eq_left (by omega)]
  exact h.2.2 k x hx j hj
 ·cases hx
end Go.Proofs.Ytbbkclcfmcjlgaa.B



namespace Go.Proofs.Ytbbkclcfmcjlgaa.P
open Go.RowKit Go.Proofs.YtbbkclcfmcjlgaaW.PrintWords Go.Proofs.YtbbkclcfmcjlgaaW.PrintLast Go.Proofs.YtbbkclcfmcjlgaaW.PrintMore
attribute [local go_sem] max2_int min2_int max_two min_two max_three min_three max_four min_four
set_option linter.unusedVariables false
set_option linter.unusedSimpArgs false

mutual
def swarfref29_Closure.l0 : Nat → Int → List (List Bool) → List (S47) → Int → Option ((List (S47)) × Int)
 | 0, _, _, _, _ => none
 | k + 1, x0, x7, x8, x9 => if x9 < x0 then (swarfref29_Closure.l1 k x0 x7 x8 x9 0) else (some (x8, 0))
def swarfref29_Closure.l1 : Nat → Int → List (List Bool) → List (S47) → Int → Int → Option ((List (S47)) × Int)
 | 0, _, _, _, _, _ => none
 | k + 1, x0, x7, x8, x9, x10 => if x10 < x0 then (if 0 ≤ x9 then (if x9 < (x7.length : Int) then (if 0 ≤ x10 then (if x10 < ((rd_L7 x7 x9).length : Int) then (if rdOf false (rd_L7 x7 x9) x10 = true then (if x8.length < 8796093022208 then (swarfref29_Closure.l1 k x0 x7 (x8 ++ [(⟨x9, x10⟩ : S47)]) x9 (wrap64 (x10 + 1))) else (none)) else (swarfref29_Closure.l1 k x0 x7 x8 x9 (wrap64 (x10 + 1)))) else (none)) else (none)) else (none)) else (none)) else (swarfref29_Closure.l0 k x0 x7 x8 (wrap64 (x9 + 1)))
end
def swarfref29_Closure.f (k : Nat) (a0 : Int) (l1 : List (S47)) : Option ((List (S47)) × Int) := (swarfref29_fault.f k a0 l1).bind fun t403 => (if t403 = 0 then ((swarfref29_Depends.f k a0 l1).bind fun t404 => (swarfref29_Closure.l0 k a0 t404 ([] : List (S47)) 0)) else (some (([] : List (S47)), t403)))
set_option maxHeartbeats 8000000 in
set_option maxRecDepth 100000 in
theorem swarfref29_Closure.calls (k : Nat) (a0 : Int) (A1 : Option Addr) (c1 : Nat) (l1 : List (S47)) (r1 : List (S47)) (r2 : Int) (w : World) (hr1 : Kd.C k47 w A1 l1.length l1) (hc1 : l1.length ≤ c1) (h : swarfref29_Closure.f k a0 l1 = some (r1, r2)) :
  Calls Try.prog 32 #[.int .i64 a0, .slice A1 l1.length c1] w fun e w' => ∃ v0_ : Value, e = .returned (.tuple #[v0_, .int .i64 r2]) ∧ Kd.R k47 47 w' w.heap.size (fun _ => True) v0_ r1 ∧ Below w.heap.size w w' := by
 have hu47 := Try.underlying47
 have HR1 := aK hr1
 have HC1 := aK hc1
 clear hr1 hc1
 have HB := aK (Below.refl w.heap.size w)
 have H : ((swarfref29_fault.f k a0 l1).bind fun t403 => (if t403 = 0 then ((swarfref29_Depends.f k a0 l1).bind fun t404 => (swarfref29_Closure.l0 k a0 t404 ([] : List (S47)) 0)) else (some (([] : List (S47)), t403)))) = some (r1, r2) := h
 clear h
 replace H := oB_ H
 obtain ⟨t403, A30, H⟩ := H
 replace H : (if t403 = 0 then ((swarfref29_Depends.f k a0 l1).bind fun t404 => (swarfref29_Closure.l0 k a0 t404 ([] : List (S47)) 0)) else (some (([] : List (S47)), t403))) = some (r1, r2) := H
 have A3 := aK A30
 clear A30
 by_cases c4 : t403 = 0
 ·rw [if_pos c4] at H
  have c4b0 : (t403 == 0) = true := beq_iff_eq.mpr c4
  have c4b1 : (t403 != 0) = false := bne_eq_false_iff_eq.mpr c4
  clear c4; replace H := oB_ H
  obtain ⟨t404, A50, H⟩ := H
  replace H : (swarfref29_Closure.l0 k a0 t404 ([] : List (S47)) 0) = some (r1, r2) := H
  have A5 := aK A50; clear A50; have H' := aK H; clear H
  go_enter Try.func32, Try.ntmps32
  go_wp2_with (first | ((with_reducible refine gate_callee (f := 47) rfl ?_); refine goesL_ (some 13) rfl rfl Try.func47 (by kernel_rfl) rfl #[.int .i64 a0, .slice A1 l1.length c1] rfl (by (try simp only [List.map_toArray, List.map_cons, List.map_nil]); first | done | rfl | (simp only [List.length_drop, List.length_take]; rfl)) ?_; (with_reducible refine (swarfref29_fault.calls k a0 _ _ l1 t403 _ ?side1 ?side2 A3.out).mono ?_); (case side1 => repeat (first | exact HR1.out | (with_reducible refine Kd.C_alloc ?_ _) | (with_reducible refine Kd.C_drewN ?_ _) | (with_reducible refine Kd.C_drew ?_))); (case side2 => exact HC1.out); rintro e w6 ⟨rfl, hb⟩; refine ⟨_, rfl, ?_⟩; have n0_ := aK (bT_ (by repeat (first | (with_reducible first | exact HB.out | apply bA_ | apply bN_ | apply bD_) | exact HB.out)) hb); clear HB; have HB := n0_; clear n0_; (try clear hb); (try clear hb2); (try clear hk); (try clear hi)) | ((with_reducible refine gate_callee (f := 44) rfl ?_); refine goesL_ (some 19) rfl rfl Try.func44 (by kernel_rfl) rfl #[.int .i64 a0, .slice A1 l1.length c1] rfl (by (try simp only [List.map_toArray, List.map_cons, List.map_nil]); first | done | rfl | (simp only [List.length_drop, List.length_take]; rfl)) ?_; (with_reducible refine (swarfref29_Depends.calls k a0 _ _ l1 t404 _ ?side1 ?side2 A5.out).mono ?_); (case side1 => repeat (first | exact (Kd.C_below HR1.out HB.out) | (with_reducible refine Kd.C_alloc ?_ _) | (with_reducible refine Kd.C_drewN ?_ _) | (with_reducible refine Kd.C_drew ?_))); (case side2 => exact HC1.out); rintro e w7 ⟨v405, rfl, ho0, hb⟩; refine ⟨_, rfl, ?_⟩; have n0_ := aK (Kd.S_lower ho0 (bZ_ (by repeat (first | (with_reducible first | exact HB.out | apply bA_ | apply bN_ | apply bD_) | exact HB.out)))); have n1_ := aK (bT_ (by repeat (first | (with_reducible first | exact HB.out | apply bA_ | apply bN_ | apply bD_) | exact HB.out)) hb); clear HB; have HO406 := n0_; have HB := n1_; clear n0_ n1_; (try clear hb); (try clear hb2); (try clear hk); (try clear hi); (try clear ho0)))
  go_loopg [8, 9] k (fun kq v8 v9 w' => ∃ (x8_1 : List (S47)) (x9_1 : Int), v9 = .int .i64 x9_1 ∧ Aside0 (swarfref29_Closure.l0 kq a0 t404 x8_1 x9_1 = some (r1, r2)) ∧ Aside0 (kq ≤ k) ∧ Aside0 (Kd.S (Kd.slice 4 Kd.bool) 52 w' w.heap.size (fun _ => True) v405 t404) ∧ Aside0 (Kd.R k47 47 w' w.heap.size (fun _ => True) v8 x8_1) ∧ Aside0 (Below w.heap.size w w'))
  case atStart => exact ⟨(([] : List (S47))), (0), (by first | rfl | (simp; done) | (simp [*]; done)), H', ⟨Nat.le_refl _⟩, ⟨by (with_reducible repeat (first | apply Kd.S_alloc | apply Kd.S_drewN | apply Kd.S_drew)); exact HO406.out⟩, ⟨by first | exact Kd.R_nil _ _ _ _ _ | exact Kd.N_nil _ _ _ _ _ | exact Kd.V_nil _ _ _ _ _ | exact Kd.Q_nil _ _ _ _ _ | exact Kd.S_nil _ _ _ _ _⟩, ⟨by repeat (first | (with_reducible first | exact HB.out | apply bA_ | apply bN_ | apply bD_) | exact HB.out)⟩⟩
  case round =>
   clear H'; try clear c1; try clear p2; try clear c3; try clear c4; try clear c4b0; try clear c4b1
   obtain ⟨x8_1, x9_1, rfl, HA, HK1, HO_7, HO_8, HB⟩ := hrel
   cases gk with
   | zero => exact absurd HA.out (by simp [swarfref29_Closure.l0])
   | succ k1 =>
    have H := HA.out
    clear HA
    simp only [swarfref29_Closure.l0] at H
    by_cases c8 : x9_1 < a0
    ·rw [if_pos c8] at H
     have c8b0 : decide (x9_1 < a0) = true := decide_eq_true c8
     clear c8; have H' := aK H; clear H; go_wp2
     go_loopg [8, 10] k1 (fun kq v8 v10 w' => ∃ (x8_2 : List (S47)) (x10_2 : Int), v10 = .int .i64 x10_2 ∧ Aside0 (swarfref29_Closure.l1 kq a0 t404 x8_2 x9_1 x10_2 = some (r1, r2)) ∧ Aside0 (kq ≤ k1) ∧ Aside0 (Kd.S (Kd.slice 4 Kd.bool) 52 w' w.heap.size (fun _ => True) v405 t404) ∧ Aside0 (Kd.R k47 47 w' w.heap.size (fun _ => True) v8 x8_2) ∧ Aside0 (Below w.heap.size w w'))
     case atStart => exact ⟨(x8_1), (0), (by first | rfl | (simp; done) | (simp [*]; done)), H', ⟨Nat.le_refl _⟩, ⟨by (with_reducible repeat (first | apply Kd.S_alloc | apply Kd.S_drewN | apply Kd.S_drew)); exact HO_7.out⟩, ⟨by (with_reducible repeat (first | apply Kd.R_alloc | apply Kd.R_drewN | apply Kd.R_drew)); exact HO_8.out⟩, ⟨by repeat (first | (with_reducible first | exact HB.out | apply bA_ | apply bN_ | apply bD_) | exact HB.out)⟩⟩
     case round =>
      clear H'; try clear c1; try clear p2; try clear c3; try clear c4; try clear c4b0; try clear c4b1; try clear c8; try clear c8b0; try clear p2
      obtain ⟨x8_2, x10_2, rfl, HA, HK2, HO_7, HO_8, HB⟩ := hrel
      cases gk with
      | zero => exact absurd HA.out (by simp [swarfref29_Closure.l1])
      | succ k2 =>
       have H := HA.out
       clear HA
       simp only [swarfref29_Closure.l1] at H
       by_cases c9 : x10_2 < a0
       ·rw [if_pos c9] at H
        have c9b0 : decide (x10_2 < a0) = true := decide_eq_true c9
        clear c9
        by_cases c10 : 0 ≤ x9_1
        ·rw [if_pos c10] at H
         have c10b0 : decide (0 ≤ x9_1) = true := decide_eq_true c10
         clear c10
         by_cases c11 : x9_1 < (t404.length : Int)
         ·rw [if_pos c11] at H
          have c11b0 : decide (x9_1 < (t404.length : Int)) = true := decide_eq_true c11
          clear c11
          by_cases c12 : 0 ≤ x10_2
          ·rw [if_pos c12] at H
           have c12b0 : decide (0 ≤ x10_2) = true := decide_eq_true c12
           clear c12
           by_cases c13 : x10_2 < ((rd_L7 t404 x9_1).length : Int)
           ·rw [if_pos c13] at H
            have c13b0 : decide (x10_2 < ((rd_L7 t404 x9_1).length : Int)) = true := decide_eq_true c13
            clear c13
            obtain ⟨bq14, hbq14⟩ : ∃ b_ : Bool, b_ = (rdOf false (rd_L7 t404 x9_1) x10_2) := ⟨_, rfl⟩
            replace H : (if bq14 = true then (if x8_2.length < 8796093022208 then (swarfref29_Closure.l1 k2 a0 t404 (x8_2 ++ [(⟨x9_1, x10_2⟩ : S47)]) x9_1 (wrap64 (x10_2 + 1))) else (none)) else (swarfref29_Closure.l1 k2 a0 t404 x8_2 x9_1 (wrap64 (x10_2 + 1)))) = some (r1, r2) := by rw [← hbq14] at H; exact H
            have Nbq14 := aK hbq14; clear hbq14
            by_cases c15 : bq14 = true
            ·subst c15
             have H1 : (if x8_2.length < 8796093022208 then (swarfref29_Closure.l1 k2 a0 t404 (x8_2 ++ [(⟨x9_1, x10_2⟩ : S47)]) x9_1 (wrap64 (x10_2 + 1))) else (none)) = some (r1, r2) := by rw [if_pos rfl] at H; exact H
             clear H; have H := H1; clear H1
             by_cases c16 : x8_2.length < 8796093022208
             ·rw [if_pos c16] at H; have LMc16 := aK c16; clear c16
              obtain ⟨y409, hy409⟩ : ∃ y_ : List (S47), y_ = (x8_2 ++ [(⟨x9_1, x10_2⟩ : S47)]) := ⟨_, rfl⟩
              replace H : (swarfref29_Closure.l1 k2 a0 t404 y409 x9_1 (wrap64 (x10_2 + 1))) = some (r1, r2) := by first | (rw [hy409]; with_reducible exact H) | (have H2_ := (Option.bind_some _ _).symm.trans H; rw [hy409]; with_reducible exact H2_) | (have H2_ := (Option.bind_some _ _).symm.trans H; with_reducible exact H2_) | with_reducible exact H | (rw [hy409]; exact H) | exact H
              have Ny409 := aK hy409; clear hy409; have H' := aK H; clear H
              obtain ⟨Ao17, co17, eo17⟩ := Kd.S_slice HO_7.out
              subst eo17
              have p407 : 0 ≤ (x9_1 : Int) := of_decide_eq_true (by first | (with_reducible assumption) | assumption)
              have q407 : x9_1 < (t404.length : Int) := of_decide_eq_true (by first | (with_reducible assumption) | assumption)
              obtain ⟨ad407, A407_0, c407_0, e407, hx407_0, hl407_0, hi407_0⟩ := at_L7 (Kd.S_reads' HO_7.out).2.2 x9_1 p407 q407
              cases e407
              obtain ⟨ce407, hce407, hMe407, hcc407⟩ := Kd.S_get HO_7.out [] x9_1 p407 (by first | exact q407 | exact of_decide_eq_true (by first | (with_reducible assumption) | assumption) | (have e_ := (Kd.S_reads' HO_7.out).1; omega))
              obtain ⟨ve407_0, rfl, ge407_0⟩ := hMe407
              have hv407_0 := hcc407 0 _ rfl
              rw [Nat.add_zero, show ((Kd.slice 4 Kd.bool)).sz = 1 from rfl, Nat.mul_one] at hv407_0
              replace hv407_0 := Option.some.inj (hv407_0.symm.trans hx407_0)
              rw [hv407_0] at ge407_0
              have HL407_0 := aK (show Kd.R Kd.bool 4 _ _ _ _ (rd_L7 t404 x9_1) from ge407_0)
              clear hv407_0 ge407_0; clear hcc407 hce407; have HR407_0 := aK hi407_0; have HC407_0 := aK hl407_0; clear hi407_0 hl407_0; replace p407 := eq_true p407; replace q407 := eq_true q407
              have p408 : 0 ≤ (x10_2 : Int) := of_decide_eq_true (by first | (with_reducible assumption) | assumption)
              have q408 : x10_2 < ((rd_L7 t404 x9_1).length : Int) := of_decide_eq_true (by first | (with_reducible assumption) | assumption)
              obtain ⟨ad408, e408, hx408_0⟩ := Kd.at_bool (by repeat (first | (with_reducible exact HR407_0.out) | (with_reducible refine Kd.C_alloc ?_ _) | (with_reducible refine Kd.C_drewN ?_ _) | (with_reducible refine Kd.C_drew ?_) | exact HR407_0.out)) x10_2 p408 q408
              (try rw [← Nbq14.out] at hx408_0)
              cases e408; replace p408 := eq_true p408; replace q408 := eq_true q408
              go_wp2_with (first | ((with_reducible refine gate_builtin (b := .append) (xs := #[.tmp 37, .tmp 41]) rfl ?_); at_builtin; refine Kd.R_append k47 (w0 := w) w.heap.size rfl (.tmp 37) (.tmp 41) 22 47 (.agg #[(.int .i64 0), (.int .i64 0)]) 16 rfl Try.underlying22 info47 rfl (by decide) (by omega) u8 x8_2 (⟨x9_1, x10_2⟩ : S47) [.int .i64 x9_1, .int .i64 x10_2] (fun _ => True) (fun _ => False) rfl rfl ?aP (fun _ hk => hk.elim) ?aF ?aO ?aB ?aS ?aL ?_; (case aP => exact k47_mkM _ _ _ (⟨x9_1, x10_2⟩ : S47)); (case aB => exact (by repeat (first | (with_reducible first | exact HB.out | apply bA_ | apply bN_ | apply bD_) | exact HB.out))); (case aF => exact (fun _ _ => trivial)); (case aO => exact (by (with_reducible repeat (first | apply Kd.R_alloc | apply Kd.R_drewN | apply Kd.R_drew)); exact HO_8.out)); (case aS => exact (bZ_ (by repeat (first | (with_reducible first | exact HB.out | apply bA_ | apply bN_ | apply bD_) | exact HB.out)))); (case aL => have := LMc16.out; omega); intro v410 w18 ho hb hg hat; rw [← Ny409.out] at ho; have n0_ := aK (Kd.S_over' (by (with_reducible repeat (first | apply Kd.S_alloc | apply Kd.S_drewN | apply Kd.S_drew)); exact HO_7.out) (Kd.R_typed (by (with_reducible repeat (first | apply Kd.R_alloc | apply Kd.R_drewN | apply Kd.R_drew)); exact HO_8.out)) (by decide) hg); have n1_ := aK (Kd.R_over' (by (with_reducible repeat (first | apply Kd.R_alloc | apply Kd.R_drewN | apply Kd.R_drew)); exact HL407_0.out) (Kd.R_typed (by (with_reducible repeat (first | apply Kd.R_alloc | apply Kd.R_drewN | apply Kd.R_drew)); exact HO_8.out)) (by decide) hg); have n2_ := aK (hb); have n3_ := aK (ho); clear HO_7; clear HL407_0; clear HB; clear HO_8; have HO_7 := n0_; have HL407_0 := n1_; have HB := n2_; have HO411 := n3_; clear n0_ n1_ n2_ n3_; clear ho hb hg hat))
              go_roundg k2
              case measure => have := HK1.out; have := HK2.out; omega
              case rel => exact ⟨(y409), (wrap64 (x10_2 + 1)), (by first | rfl | (simp; done) | (simp [*]; done)), H', ⟨by have := HK1.out; have := HK2.out; omega⟩, ⟨by (with_reducible repeat (first | apply Kd.S_alloc | apply Kd.S_drewN | apply Kd.S_drew)); exact HO_7.out⟩, ⟨by (with_reducible repeat (first | apply Kd.R_alloc | apply Kd.R_drewN | apply Kd.R_drew)); exact HO411.out⟩, ⟨by repeat (first | (with_reducible first | exact HB.out | apply bA_ | apply bN_ | apply bD_) | exact HB.out)⟩⟩
             ·rw [if_neg c16] at H
              exact absurd H (by simp)
            ·replace c15 := Bool.eq_false_iff.mpr c15
             subst c15
             have H1 : (swarfref29_Closure.l1 k2 a0 t404 x8_2 x9_1 (wrap64 (x10_2 + 1))) = some (r1, r2) := by rw [if_neg (show ¬ (false = true) by decide)] at H; exact H
             clear H; have H := H1; clear H1; have H' := aK H; clear H
             obtain ⟨Ao19, co19, eo19⟩ := Kd.S_slice HO_7.out
             subst eo19
             have p407 : 0 ≤ (x9_1 : Int) := of_decide_eq_true (by first | (with_reducible assumption) | assumption)
             have q407 : x9_1 < (t404.length : Int) := of_decide_eq_true (by first | (with_reducible assumption) | assumption)
             obtain ⟨ad407, A407_0, c407_0, e407, hx407_0, hl407_0, hi407_0⟩ := at_L7 (Kd.S_reads' HO_7.out).2.2 x9_1 p407 q407
             cases e407
             obtain ⟨ce407, hce407, hMe407, hcc407⟩ := Kd.S_get HO_7.out [] x9_1 p407 (by first | exact q407 | exact of_decide_eq_true (by first | (with_reducible assumption) | assumption) | (have e_ := (Kd.S_reads' HO_7.out).1; omega))
             obtain ⟨ve407_0, rfl, ge407_0⟩ := hMe407
             have hv407_0 := hcc407 0 _ rfl
             rw [Nat.add_zero, show ((Kd.slice 4 Kd.bool)).sz = 1 from rfl, Nat.mul_one] at hv407_0
             replace hv407_0 := Option.some.inj (hv407_0.symm.trans hx407_0)
             rw [hv407_0] at ge407_0
             have HL407_0 := aK (show Kd.R Kd.bool 4 _ _ _ _ (rd_L7 t404 x9_1) from ge407_0)
             clear hv407_0 ge407_0; clear hcc407 hce407; have HR407_0 := aK hi407_0; have HC407_0 := aK hl407_0; clear hi407_0 hl407_0; replace p407 := eq_true p407; replace q407 := eq_true q407
             have p408 : 0 ≤ (x10_2 : Int) := of_decide_eq_true (by first | (with_reducible assumption) | assumption)
             have q408 : x10_2 < ((rd_L7 t404 x9_1).length : Int) := of_decide_eq_true (by first | (with_reducible assumption) | assumption)
             obtain ⟨ad408, e408, hx408_0⟩ := Kd.at_bool (by repeat (first | (with_reducible exact HR407_0.out) | (with_reducible refine Kd.C_alloc ?_ _) | (with_reducible refine Kd.C_drewN ?_ _) | (with_reducible refine Kd.C_drew ?_) | exact HR407_0.out)) x10_2 p408 q408
             (try rw [← Nbq14.out] at hx408_0)
             cases e408; replace p408 := eq_true p408; replace q408 := eq_true q408; go_wp2
             go_roundg k2
             case measure => have := HK1.out; have := HK2.out; omega
             case rel => exact ⟨(x8_2), (wrap64 (x10_2 + 1)), (by first | rfl | (simp; done) | (simp [*]; done)), H', ⟨by have := HK1.out; have := HK2.out; omega⟩, ⟨by (with_reducible repeat (first | apply Kd.S_alloc | apply Kd.S_drewN | apply Kd.S_drew)); exact HO_7.out⟩, ⟨by (with_reducible repeat (first | apply Kd.R_alloc | apply Kd.R_drewN | apply Kd.R_drew)); exact HO_8.out⟩, ⟨by repeat (first | (with_reducible first | exact HB.out | apply bA_ | apply bN_ | apply bD_) | exact HB.out)⟩⟩
           ·rw [if_neg c13] at H
            exact absurd H (by simp)
          ·rw [if_neg c12] at H
           exact absurd H (by simp)
         ·rw [if_neg c11] at H
          exact absurd H (by simp)
        ·rw [if_neg c10] at H
         exact absurd H (by simp)
       ·rw [if_neg c9] at H
        have c9b0 : decide (x10_2 < a0) = false := decide_eq_false c9
        clear c9; have H' := aK H; clear H; go_wp2
        go_roundg k2
        case measure => have := HK1.out; have := HK2.out; omega
        case rel => exact ⟨(x8_2), (wrap64 (x9_1 + 1)), (by first | rfl | (simp; done) | (simp [*]; done)), H', ⟨by have := HK1.out; have := HK2.out; omega⟩, ⟨by (with_reducible repeat (first | apply Kd.S_alloc | apply Kd.S_drewN | apply Kd.S_drew)); exact HO_7.out⟩, ⟨by (with_reducible repeat (first | apply Kd.R_alloc | apply Kd.R_drewN | apply Kd.R_drew)); exact HO_8.out⟩, ⟨by repeat (first | (with_reducible first | exact HB.out | apply bA_ | apply bN_ | apply bD_) | exact HB.out)⟩⟩
    ·rw [if_neg c8] at H
     have c8b0 : decide (x9_1 < a0) = false := decide_eq_false c8
     clear c8
     simp only [Option.some.injEq, Prod.mk.injEq] at H
     obtain ⟨rfl, rfl⟩ := H
     go_wp2
     go_ret2
     exact ⟨_, by first | rfl | (simp [errW_none, errW_some] <;> rfl) | (simp [*, errW_none, errW_some] <;> rfl), by (with_reducible repeat (first | apply Kd.R_alloc | apply Kd.R_drewN | apply Kd.R_drew)); exact HO_8.out, by repeat (first | (with_reducible first | exact HB.out | apply bA_ | apply bN_ | apply bD_) | exact HB.out)⟩
 ·rw [if_neg c4] at H
  have c4b0 : (t403 == 0) = false := beq_eq_false_iff_ne.mpr c4
  have c4b1 : (t403 != 0) = true := bne_iff_ne.mpr c4
  simp only [Option.some.injEq, Prod.mk.injEq] at H
  obtain ⟨rfl, rfl⟩ := H
  go_enter Try.func32, Try.ntmps32
  go_wp2_with (first | ((with_reducible refine gate_callee (f := 47) rfl ?_); refine goesL_ (some 13) rfl rfl Try.func47 (by kernel_rfl) rfl #[.int .i64 a0, .slice A1 l1.length c1] rfl (by (try simp only [List.map_toArray, List.map_cons, List.map_nil]); first | done | rfl | (simp only [List.length_drop, List.length_take]; rfl)) ?_; (with_reducible refine (swarfref29_fault.calls k a0 _ _ l1 t403 _ ?side1 ?side2 A3.out).mono ?_); (case side1 => repeat (first | exact HR1.out | (with_reducible refine Kd.C_alloc ?_ _) | (with_reducible refine Kd.C_drewN ?_ _) | (with_reducible refine Kd.C_drew ?_))); (case side2 => exact HC1.out); rintro e w20 ⟨rfl, hb⟩; refine ⟨_, rfl, ?_⟩; have n0_ := aK (bT_ (by repeat (first | (with_reducible first | exact HB.out | apply bA_ | apply bN_ | apply bD_) | exact HB.out)) hb); clear HB; have HB := n0_; clear n0_; (try clear hb); (try clear hb2); (try clear hk); (try clear hi)))
  go_ret2
  exact ⟨_, by first | rfl | (simp [errW_none, errW_some] <;> rfl) | (simp [*, errW_none, errW_some] <;> rfl), by first | exact Kd.R_nil _ _ _ _ _ | exact Kd.N_nil _ _ _ _ _ | exact Kd.V_nil _ _ _ _ _ | exact Kd.Q_nil _ _ _ _ _ | exact Kd.S_nil _ _ _ _ _, by repeat (first | (with_reducible first | exact HB.out | apply bA_ | apply bN_ | apply bD_) | exact HB.out)⟩

end Go.Proofs.Ytbbkclcfmcjlgaa.P



namespace Go.Proofs.Ytbbkclcfmcjlgaa.P
open Go.RowKit Go.Proofs.YtbbkclcfmcjlgaaW.PrintWords Go.Proofs.YtbbkclcfmcjlgaaW.PrintLast Go.Proofs.YtbbkclcfmcjlgaaW.PrintMore
attribute [local go_sem] max2_int min2_int max_two min_two max_three min_three max_four min_four
set_option linter.unusedVariables false
set_option linter.unusedSimpArgs false

mutual
def swarfref29_Reduce.l0 : Nat → Int → List (S47) → List (List Bool) → List (S47) → Int → Option ((List (S47)) × Int)
 | 0, _, _, _, _, _ => none
 | k + 1, x0, x6, x8, x9, x10 => if x10 < (x6.length : Int) then (swarfref29_Reduce.l1 k x0 x6 x8 x9 x10 false 0) else (some (x9, 0))
def swarfref29_Reduce.l1 : Nat → Int → List (S47) → List (List Bool) → List (S47) → Int → Bool → Int → Option ((List (S47)) × Int)
 | 0, _, _, _, _, _, _, _ => none
 | k + 1, x0, x6, x8, x9, x10, x11, x12 => if x12 < x0 then (if x11 = true then (swarfref29_Reduce.l1 k x0 x6 x8 x9 x10 true (wrap64 (x12 + 1))) else (if 0 ≤ x10 then (if x10 < (x6.length : Int) then (if 0 ≤ ((rd_T47 x6 x10).f0) then (if ((rd_T47 x6 x10).f0) < (x8.length : Int) then (if 0 ≤ x12 then (if x12 < ((rd_L7 x8 ((rd_T47 x6 x10).f0)).length : Int) then (if rdOf false (rd_L7 x8 ((rd_T47 x6 x10).f0)) x12 = true then (if x12 < (x8.length : Int) then (if 0 ≤ ((rd_T47 x6 x10).f1) then (if ((rd_T47 x6 x10).f1) < ((rd_L7 x8 x12).length : Int) then (swarfref29_Reduce.l1 k x0 x6 x8 x9 x10 (rdOf false (rd_L7 x8 x12) ((rd_T47 x6 x10).f1)) (wrap64 (x12 + 1))) else (none)) else (none)) else (none)) else (swarfref29_Reduce.l1 k x0 x6 x8 x9 x10 false (wrap64 (x12 + 1)))) else (none)) else (none)) else (none)) else (none)) else (none)) else (none))) else (if x11 = true then (swarfref29_Reduce.l0 k x0 x6 x8 x9 (wrap64 (x10 + 1))) else (if 0 ≤ x10 then (if x10 < (x6.length : Int) then (if x9.length < 8796093022208 then (swarfref29_Reduce.l0 k x0 x6 x8 (x9 ++ [(⟨(rd_T47 x6 x10).f0, (rd_T47 x6 x10).f1⟩ : S47)]) (wrap64 (x10 + 1))) else (none)) else (none)) else (none)))
end
def swarfref29_Reduce.f (k : Nat) (a0 : Int) (l1 : List (S47)) : Option ((List (S47)) × Int) := (swarfref29_Closure.f k a0 l1).bind fun bt412 => (if bt412.2 = 0 then ((swarfref29_Depends.f k a0 l1).bind fun t416 => (swarfref29_Reduce.l0 k a0 bt412.1 t416 ([] : List (S47)) 0)) else (some (([] : List (S47)), bt412.2)))
set_option maxHeartbeats 8000000 in
set_option maxRecDepth 100000 in
theorem swarfref29_Reduce.calls (k : Nat) (a0 : Int) (A1 : Option Addr) (c1 : Nat) (l1 : List (S47)) (r1 : List (S47)) (r2 : Int) (w : World) (hr1 : Kd.C k47 w A1 l1.length l1) (hc1 : l1.length ≤ c1) (h : swarfref29_Reduce.f k a0 l1 = some (r1, r2)) :
  Calls Try.prog 33 #[.int .i64 a0, .slice A1 l1.length c1] w fun e w' => ∃ v0_ : Value, e = .returned (.tuple #[v0_, .int .i64 r2]) ∧ Kd.R k47 47 w' w.heap.size (fun _ => True) v0_ r1 ∧ Below w.heap.size w w' := by
 have hu47 := Try.underlying47
 have HR1 := aK hr1
 have HC1 := aK hc1
 clear hr1 hc1
 have HB := aK (Below.refl w.heap.size w)
 have H : ((swarfref29_Closure.f k a0 l1).bind fun bt412 => (if bt412.2 = 0 then ((swarfref29_Depends.f k a0 l1).bind fun t416 => (swarfref29_Reduce.l0 k a0 bt412.1 t416 ([] : List (S47)) 0)) else (some (([] : List (S47)), bt412.2)))) = some (r1, r2) := h
 clear h
 replace H := oB_ H
 obtain ⟨⟨t412, t413⟩, A30, H⟩ := H
 replace H : (if t413 = 0 then ((swarfref29_Depends.f k a0 l1).bind fun t416 => (swarfref29_Reduce.l0 k a0 t412 t416 ([] : List (S47)) 0)) else (some (([] : List (S47)), t413))) = some (r1, r2) := H
 have A3 := aK A30
 clear A30
 by_cases c4 : t413 = 0
 ·rw [if_pos c4] at H
  have c4b0 : (t413 == 0) = true := beq_iff_eq.mpr c4
  have c4b1 : (t413 != 0) = false := bne_eq_false_iff_eq.mpr c4
  clear c4; replace H := oB_ H
  obtain ⟨t416, A50, H⟩ := H
  replace H : (swarfref29_Reduce.l0 k a0 t412 t416 ([] : List (S47)) 0) = some (r1, r2) := H
  have A5 := aK A50; clear A50; have H' := aK H; clear H
  go_enter Try.func33, Try.ntmps33
  go_wp2_with (first | (go_at_call 32; (with_reducible refine (swarfref29_Closure.calls k a0 _ _ l1 t412 t413 _ ?side1 ?side2 A3.out).mono ?_); (case side1 => repeat (first | exact HR1.out | (with_reducible refine Kd.C_alloc ?_ _) | (with_reducible refine Kd.C_drewN ?_ _) | (with_reducible refine Kd.C_drew ?_))); (case side2 => exact HC1.out); rintro e w6 ⟨v414, rfl, ho0, hb⟩; have n0_ := aK (Kd.R_lower ho0 (bZ_ (by repeat (first | (with_reducible first | exact HB.out | apply bA_ | apply bN_ | apply bD_) | exact HB.out)))); have n1_ := aK (bT_ (by repeat (first | (with_reducible first | exact HB.out | apply bA_ | apply bN_ | apply bD_) | exact HB.out)) hb); clear HB; have HO415 := n0_; have HB := n1_; clear n0_ n1_; (try clear hb); (try clear hb2); (try clear hk); (try clear hi); (try clear ho0)) | (go_at_call 44; (with_reducible refine (swarfref29_Depends.calls k a0 _ _ l1 t416 _ ?side1 ?side2 A5.out).mono ?_); (case side1 => repeat (first | exact (Kd.C_below HR1.out HB.out) | (with_reducible refine Kd.C_alloc ?_ _) | (with_reducible refine Kd.C_drewN ?_ _) | (with_reducible refine Kd.C_drew ?_))); (case side2 => exact HC1.out); rintro e w7 ⟨v417, rfl, ho0, hb⟩; have n0_ := aK (Kd.R_below (by (with_reducible repeat (first | apply Kd.R_alloc | apply Kd.R_drewN | apply Kd.R_drew)); exact HO415.out) hb); have n1_ := aK (Kd.S_lower ho0 (bZ_ (by repeat (first | (with_reducible first | exact HB.out | apply bA_ | apply bN_ | apply bD_) | exact HB.out)))); have n2_ := aK (bT_ (by repeat (first | (with_reducible first | exact HB.out | apply bA_ | apply bN_ | apply bD_) | exact HB.out)) hb); clear HO415; clear HB; have HO415 := n0_; have HO418 := n1_; have HB := n2_; clear n0_ n1_ n2_; (try clear hb); (try clear hb2); (try clear hk); (try clear hi); (try clear ho0)))
  repeat (go_quiet (first | (go_at_call 32; (with_reducible refine (swarfref29_Closure.calls k a0 _ _ l1 t412 t413 _ ?side1 ?side2 A3.out).mono ?_); (case side1 => repeat (first | exact HR1.out | (with_reducible refine Kd.C_alloc ?_ _) | (with_reducible refine Kd.C_drewN ?_ _) | (with_reducible refine Kd.C_drew ?_))); (case side2 => exact HC1.out); rintro e w6 ⟨v414, rfl, ho0, hb⟩; have n0_ := aK (Kd.R_lower ho0 (bZ_ (by repeat (first | (with_reducible first | exact HB.out | apply bA_ | apply bN_ | apply bD_) | exact HB.out)))); have n1_ := aK (bT_ (by repeat (first | (with_reducible first | exact HB.out | apply bA_ | apply bN_ | apply bD_) | exact HB.out)) hb); clear HB; have HO415 := n0_; have HB := n1_; clear n0_ n1_; (try clear hb); (try clear hb2); (try clear hk); (try clear hi); (try clear ho0)) | (go_at_call 44; (with_reducible refine (swarfref29_Depends.calls k a0 _ _ l1 t416 _ ?side1 ?side2 A5.out).mono ?_); (case side1 => repeat (first | exact (Kd.C_below HR1.out HB.out) | (with_reducible refine Kd.C_alloc ?_ _) | (with_reducible refine Kd.C_drewN ?_ _) | (with_reducible refine Kd.C_drew ?_))); (case side2 => exact HC1.out); rintro e w7 ⟨v417, rfl, ho0, hb⟩; have n0_ := aK (Kd.R_below (by (with_reducible repeat (first | apply Kd.R_alloc | apply Kd.R_drewN | apply Kd.R_drew)); exact HO415.out) hb); have n1_ := aK (Kd.S_lower ho0 (bZ_ (by repeat (first | (with_reducible first | exact HB.out | apply bA_ | apply bN_ | apply bD_) | exact HB.out)))); have n2_ := aK (bT_ (by repeat (first | (with_reducible first | exact HB.out | apply bA_ | apply bN_ | apply bD_) | exact HB.out)) hb); clear HO415; clear HB; have HO415 := n0_; have HO418 := n1_; have HB := n2_; clear n0_ n1_ n2_; (try clear hb); (try clear hb2); (try clear hk); (try clear hi); (try clear ho0))); try go_wp2_with (first | (go_at_call 32; (with_reducible refine (swarfref29_Closure.calls k a0 _ _ l1 t412 t413 _ ?side1 ?side2 A3.out).mono ?_); (case side1 => repeat (first | exact HR1.out | (with_reducible refine Kd.C_alloc ?_ _) | (with_reducible refine Kd.C_drewN ?_ _) | (with_reducible refine Kd.C_drew ?_))); (case side2 => exact HC1.out); rintro e w6 ⟨v414, rfl, ho0, hb⟩; have n0_ := aK (Kd.R_lower ho0 (bZ_ (by repeat (first | (with_reducible first | exact HB.out | apply bA_ | apply bN_ | apply bD_) | exact HB.out)))); have n1_ := aK (bT_ (by repeat (first | (with_reducible first | exact HB.out | apply bA_ | apply bN_ | apply bD_) | exact HB.out)) hb); clear HB; have HO415 := n0_; have HB := n1_; clear n0_ n1_; (try clear hb); (try clear hb2); (try clear hk); (try clear hi); (try clear ho0)) | (go_at_call 44; (with_reducible refine (swarfref29_Depends.calls k a0 _ _ l1 t416 _ ?side1 ?side2 A5.out).mono ?_); (case side1 => repeat (first | exact (Kd.C_below HR1.out HB.out) | (with_reducible refine Kd.C_alloc ?_ _) | (with_reducible refine Kd.C_drewN ?_ _) | (with_reducible refine Kd.C_drew ?_))); (case side2 => exact HC1.out); rintro e w7 ⟨v417, rfl, ho0, hb⟩; have n0_ := aK (Kd.R_below (by (with_reducible repeat (first | apply Kd.R_alloc | apply Kd.R_drewN | apply Kd.R_drew)); exact HO415.out) hb); have n1_ := aK (Kd.S_lower ho0 (bZ_ (by repeat (first | (with_reducible first | exact HB.out | apply bA_ | apply bN_ | apply bD_) | exact HB.out)))); have n2_ := aK (bT_ (by repeat (first | (with_reducible first | exact HB.out | apply bA_ | apply bN_ | apply bD_) | exact HB.out)) hb); clear HO415; clear HB; have HO415 := n0_; have HO418 := n1_; have HB := n2_; clear n0_ n1_ n2_; (try clear hb); (try clear hb2); (try clear hk); (try clear hi); (try clear ho0))))
  go_loopg [9, 10] k (fun kq v9 v10 w' => ∃ (x9_1 : List (S47)) (x10_1 : Int), v10 = .int .i64 x10_1 ∧ Aside0 (swarfref29_Reduce.l0 kq a0 t412 t416 x9_1 x10_1 = some (r1, r2)) ∧ Aside0 (kq ≤ k) ∧ Aside0 (Kd.R k47 47 w' w.heap.size (fun k_ => some k_ ≠ (v9 : Value).ownBlock) v414 t412) ∧ Aside0 (Kd.S (Kd.slice 4 Kd.bool) 52 w' w.heap.size (fun _ => True) v417 t416) ∧ Aside0 (Kd.R k47 47 w' w.heap.size (fun k_ => some k_ ≠ (v414 : Value).ownBlock) v9 x9_1) ∧ Aside0 (Below w.heap.size w w'))
  case atStart => exact ⟨(([] : List (S47))), (0), (by first | rfl | (simp; done) | (simp [*]; done)), H', ⟨Nat.le_refl _⟩, ⟨by (with_reducible repeat (first | apply Kd.R_alloc | apply Kd.R_drewN | apply Kd.R_drew)); exact Kd.R_mono HO415.out (fun _ hk => (by simp [Value.ownBlock]))⟩, ⟨by (with_reducible repeat (first | apply Kd.S_alloc | apply Kd.S_drewN | apply Kd.S_drew)); exact HO418.out⟩, ⟨by first | exact Kd.R_nil _ _ _ _ _ | exact Kd.N_nil _ _ _ _ _ | exact Kd.V_nil _ _ _ _ _ | exact Kd.Q_nil _ _ _ _ _ | exact Kd.S_nil _ _ _ _ _⟩, ⟨by repeat (first | (with_reducible first | exact HB.out | apply bA_ | apply bN_ | apply bD_) | exact HB.out)⟩⟩
  case round =>
   clear H'; try clear c1; try clear p2; try clear c3; try clear c4; try clear c4b0; try clear c4b1
   obtain ⟨x9_1, x10_1, rfl, HA, HK1, HO_6, HO_8, HO_9, HB⟩ := hrel
   cases gk with
   | zero => exact absurd HA.out (by simp [swarfref29_Reduce.l0])
   | succ k1 =>
    have H := HA.out
    clear HA
    simp only [swarfref29_Reduce.l0] at H
    by_cases c8 : x10_1 < (t412.length : Int)
    ·rw [if_pos c8] at H
     have c8b0 : decide (x10_1 < (t412.length : Int)) = true := decide_eq_true c8
     clear c8; have H' := aK H; clear H
     obtain ⟨Ao9, co9, eo9⟩ := Kd.R_slice HO_6.out
     subst eo9; go_wp2
     repeat (go_quiet (fail); try go_wp2)
     go_loopg [11, 12] k1 (fun kq v11 v12 w' => ∃ (x11_2 : Bool) (x12_2 : Int), v11 = .bool x11_2 ∧ v12 = .int .i64 x12_2 ∧ Aside0 (swarfref29_Reduce.l1 kq a0 t412 t416 x9_1 x10_1 x11_2 x12_2 = some (r1, r2)) ∧ Aside0 (kq ≤ k1) ∧ Aside0 (Kd.R k47 47 w' w.heap.size (fun k_ => some k_ ≠ (u9 : Value).ownBlock) (.slice Ao9 t412.length co9) t412) ∧ Aside0 (Kd.S (Kd.slice 4 Kd.bool) 52 w' w.heap.size (fun _ => True) v417 t416) ∧ Aside0 (Kd.R k47 47 w' w.heap.size (fun k_ => some k_ ≠ ((.slice Ao9 t412.length co9) : Value).ownBlock) u9 x9_1) ∧ Aside0 (Below w.heap.size w w'))
     case atStart => exact ⟨(false), (0), (by first | rfl | (simp; done) | (simp [*]; done)), (by first | rfl | (simp; done) | (simp [*]; done)), H', ⟨Nat.le_refl _⟩, ⟨by (with_reducible repeat (first | apply Kd.R_alloc | apply Kd.R_drewN | apply Kd.R_drew)); exact HO_6.out⟩, ⟨by (with_reducible repeat (first | apply Kd.S_alloc | apply Kd.S_drewN | apply Kd.S_drew)); exact HO_8.out⟩, ⟨by (with_reducible repeat (first | apply Kd.R_alloc | apply Kd.R_drewN | apply Kd.R_drew)); exact HO_9.out⟩, ⟨by repeat (first | (with_reducible first | exact HB.out | apply bA_ | apply bN_ | apply bD_) | exact HB.out)⟩⟩
     case round =>
      clear H'; try clear c1; try clear p2; try clear c3; try clear c4; try clear c4b0; try clear c4b1; try clear c8; try clear c8b0; try clear p2
      obtain ⟨x11_2, x12_2, rfl, rfl, HA, HK2, HO_6, HO_8, HO_9, HB⟩ := hrel
      cases gk with
      | zero => exact absurd HA.out (by simp [swarfref29_Reduce.l1])
      | succ k2 =>
       have H := HA.out
       clear HA
       simp only [swarfref29_Reduce.l1] at H
       by_cases c10 : x12_2 < a0
       ·rw [if_pos c10] at H
        have c10b0 : decide (x12_2 < a0) = true := decide_eq_true c10
        clear c10
        by_cases c11 : x11_2 = true
        ·subst c11
         have H1 : (swarfref29_Reduce.l1 k2 a0 t412 t416 x9_1 x10_1 true (wrap64 (x12_2 + 1))) = some (r1, r2) := by rw [if_pos rfl] at H; exact H
         clear H; have H := H1; clear H1; have H' := aK H; clear H; go_wp2
         repeat (go_quiet (fail); try go_wp2)
         go_roundg k2
         case measure => have := HK1.out; have := HK2.out; omega
         case rel => exact ⟨(true), (wrap64 (x12_2 + 1)), (by first | rfl | (simp; done) | (simp [*]; done)), (by first | rfl | (simp; done) | (simp [*]; done)), H', ⟨by have := HK1.out; have := HK2.out; omega⟩, ⟨by (with_reducible repeat (first | apply Kd.R_alloc | apply Kd.R_drewN | apply Kd.R_drew)); exact HO_6.out⟩, ⟨by (with_reducible repeat (first | apply Kd.S_alloc | apply Kd.S_drewN | apply Kd.S_drew)); exact HO_8.out⟩, ⟨by (with_reducible repeat (first | apply Kd.R_alloc | apply Kd.R_drewN | apply Kd.R_drew)); exact HO_9.out⟩, ⟨by repeat (first | (with_reducible first | exact HB.out | apply bA_ | apply bN_ | apply bD_) | exact HB.out)⟩⟩
        ·replace c11 := Bool.eq_false_iff.mpr c11
         subst c11
         have H1 : (if 0 ≤ x10_1 then (if x10_1 < (t412.length : Int) then (if 0 ≤ ((rd_T47 t412 x10_1).f0) then (if ((rd_T47 t412 x10_1).f0) < (t416.length : Int) then (if 0 ≤ x12_2 then (if x12_2 < ((rd_L7 t416 ((rd_T47 t412 x10_1).f0)).length : Int) then (if rdOf false (rd_L7 t416 ((rd_T47 t412 x10_1).f0)) x12_2 = true then (if x12_2 < (t416.length : Int) then (if 0 ≤ ((rd_T47 t412 x10_1).f1) then (if ((rd_T47 t412 x10_1).f1) < ((rd_L7 t416 x12_2).length : Int) then (swarfref29_Reduce.l1 k2 a0 t412 t416 x9_1 x10_1 (rdOf false (rd_L7 t416 x12_2) ((rd_T47 t412 x10_1).f1)) (wrap64 (x12_2 + 1))) else (none)) else (none)) else (none)) else (swarfref29_Reduce.l1 k2 a0 t412 t416 x9_1 x10_1 false (wrap64 (x12_2 + 1)))) else (none)) else (none)) else (none)) else (none)) else (none)) else (none)) = some (r1, r2) := by rw [if_neg (show ¬ (false = true) by decide)] at H; exact H
         clear H; have H := H1; clear H1
         by_cases c12 : 0 ≤ x10_1
         ·rw [if_pos c12] at H
          have c12b0 : decide (0 ≤ x10_1) = true := decide_eq_true c12
          clear c12
          by_cases c13 : x10_1 < (t412.length : Int)
          ·rw [if_pos c13] at H
           have c13b0 : decide (x10_1 < (t412.length : Int)) = true := decide_eq_true c13
           clear c13
           by_cases c14 : 0 ≤ ((rd_T47 t412 x10_1).f0)
           ·rw [if_pos c14] at H
            have c14b0 : decide (0 ≤ ((rd_T47 t412 x10_1).f0)) = true := decide_eq_true c14
            clear c14
            by_cases c15 : ((rd_T47 t412 x10_1).f0) < (t416.length : Int)
            ·rw [if_pos c15] at H
             have c15b0 : decide (((rd_T47 t412 x10_1).f0) < (t416.length : Int)) = true := decide_eq_true c15
             clear c15
             by_cases c16 : 0 ≤ x12_2
             ·rw [if_pos c16] at H
              have c16b0 : decide (0 ≤ x12_2) = true := decide_eq_true c16
              clear c16
              by_cases c17 : x12_2 < ((rd_L7 t416 ((rd_T47 t412 x10_1).f0)).length : Int)
              ·rw [if_pos c17] at H
               have c17b0 : decide (x12_2 < ((rd_L7 t416 ((rd_T47 t412 x10_1).f0)).length : Int)) = true := decide_eq_true c17
               clear c17
               obtain ⟨bq18, hbq18⟩ : ∃ b_ : Bool, b_ = (rdOf false (rd_L7 t416 ((rd_T47 t412 x10_1).f0)) x12_2) := ⟨_, rfl⟩
               replace H : (if bq18 = true then (if x12_2 < (t416.length : Int) then (if 0 ≤ ((rd_T47 t412 x10_1).f1) then (if ((rd_T47 t412 x10_1).f1) < ((rd_L7 t416 x12_2).length : Int) then (swarfref29_Reduce.l1 k2 a0 t412 t416 x9_1 x10_1 (rdOf false (rd_L7 t416 x12_2) ((rd_T47 t412 x10_1).f1)) (wrap64 (x12_2 + 1))) else (none)) else (none)) else (none)) else (swarfref29_Reduce.l1 k2 a0 t412 t416 x9_1 x10_1 false (wrap64 (x12_2 + 1)))) = some (r1, r2) := by rw [← hbq18] at H; exact H
               have Nbq18 := aK hbq18; clear hbq18
               by_cases c19 : bq18 = true
               ·subst c19
                have H1 : (if x12_2 < (t416.length : Int) then (if 0 ≤ ((rd_T47 t412 x10_1).f1) then (if ((rd_T47 t412 x10_1).f1) < ((rd_L7 t416 x12_2).length : Int) then (swarfref29_Reduce.l1 k2 a0 t412 t416 x9_1 x10_1 (rdOf false (rd_L7 t416 x12_2) ((rd_T47 t412 x10_1).f1)) (wrap64 (x12_2 + 1))) else (none)) else (none)) else (none)) = some (r1, r2) := by rw [if_pos rfl] at H; exact H
                clear H; have H := H1; clear H1
                by_cases c20 : x12_2 < (t416.length : Int)
                ·rw [if_pos c20] at H
                 have c20b0 : decide (x12_2 < (t416.length : Int)) = true := decide_eq_true c20
                 clear c20
                 by_cases c21 : 0 ≤ ((rd_T47 t412 x10_1).f1)
                 ·rw [if_pos c21] at H
                  have c21b0 : decide (0 ≤ ((rd_T47 t412 x10_1).f1)) = true := decide_eq_true c21
                  clear c21
                  by_cases c22 : ((rd_T47 t412 x10_1).f1) < ((rd_L7 t416 x12_2).length : Int)
                  ·rw [if_pos c22] at H
                   have c22b0 : decide (((rd_T47 t412 x10_1).f1) < ((rd_L7 t416 x12_2).length : Int)) = true := decide_eq_true c22
                   clear c22; have H' := aK H; clear H
                   have p419 : 0 ≤ (x10_1 : Int) := of_decide_eq_true (by first | (with_reducible assumption) | assumption)
                   have q419 : x10_1 < (t412.length : Int) := of_decide_eq_true (by first | (with_reducible assumption) | assumption)
                   obtain ⟨ad419, e419, hx419_0, hx419_1⟩ := at_T47 (Kd.R_reads' HO_6.out).2.2 x10_1 p419 q419
                   cases e419; replace p419 := eq_true p419; replace q419 := eq_true q419
                   obtain ⟨Ao23, co23, eo23⟩ := Kd.S_slice HO_8.out
                   subst eo23
                   have p420 : 0 ≤ (((rd_T47 t412 x10_1).f0) : Int) := of_decide_eq_true (by first | (with_reducible assumption) | assumption)
                   have q420 : ((rd_T47 t412 x10_1).f0) < (t416.length : Int) := of_decide_eq_true (by first | (with_reducible assumption) | assumption)
                   obtain ⟨ad420, A420_0, c420_0, e420, hx420_0, hl420_0, hi420_0⟩ := at_L7 (Kd.S_reads' HO_8.out).2.2 ((rd_T47 t412 x10_1).f0) p420 q420
                   cases e420
                   obtain ⟨ce420, hce420, hMe420, hcc420⟩ := Kd.S_get HO_8.out [] ((rd_T47 t412 x10_1).f0) p420 (by first | exact q420 | exact of_decide_eq_true (by first | (with_reducible assumption) | assumption) | (have e_ := (Kd.S_reads' HO_8.out).1; omega))
                   obtain ⟨ve420_0, rfl, ge420_0⟩ := hMe420
                   have hv420_0 := hcc420 0 _ rfl
                   rw [Nat.add_zero, show ((Kd.slice 4 Kd.bool)).sz = 1 from rfl, Nat.mul_one] at hv420_0
                   replace hv420_0 := Option.some.inj (hv420_0.symm.trans hx420_0)
                   rw [hv420_0] at ge420_0
                   have HL420_0 := aK (show Kd.R Kd.bool 4 _ _ _ _ (rd_L7 t416 ((rd_T47 t412 x10_1).f0)) from ge420_0)
                   clear hv420_0 ge420_0; clear hcc420 hce420; have HR420_0 := aK hi420_0; have HC420_0 := aK hl420_0; clear hi420_0 hl420_0; replace p420 := eq_true p420; replace q420 := eq_true q420
                   have p421 : 0 ≤ (x12_2 : Int) := of_decide_eq_true (by first | (with_reducible assumption) | assumption)
                   have q421 : x12_2 < ((rd_L7 t416 ((rd_T47 t412 x10_1).f0)).length : Int) := of_decide_eq_true (by first | (with_reducible assumption) | assumption)
                   obtain ⟨ad421, e421, hx421_0⟩ := Kd.at_bool (by repeat (first | (with_reducible exact HR420_0.out) | (with_reducible refine Kd.C_alloc ?_ _) | (with_reducible refine Kd.C_drewN ?_ _) | (with_reducible refine Kd.C_drew ?_) | exact HR420_0.out)) x12_2 p421 q421
                   (try rw [← Nbq18.out] at hx421_0)
                   cases e421; replace p421 := eq_true p421; replace q421 := eq_true q421
                   have p422 : 0 ≤ (x12_2 : Int) := of_decide_eq_true (by first | (with_reducible assumption) | assumption)
                   have q422 : x12_2 < (t416.length : Int) := of_decide_eq_true (by first | (with_reducible assumption) | assumption)
                   obtain ⟨ad422, A422_0, c422_0, e422, hx422_0, hl422_0, hi422_0⟩ := at_L7 (Kd.S_reads' HO_8.out).2.2 x12_2 p422 q422
                   obtain rfl : ad420 = ad422 := (by injection e422)
                   obtain ⟨ce422, hce422, hMe422, hcc422⟩ := Kd.S_get HO_8.out [] x12_2 p422 (by first | exact q422 | exact of_decide_eq_true (by first | (with_reducible assumption) | assumption) | (have e_ := (Kd.S_reads' HO_8.out).1; omega))
                   obtain ⟨ve422_0, rfl, ge422_0⟩ := hMe422
                   have hv422_0 := hcc422 0 _ rfl
                   rw [Nat.add_zero, show ((Kd.slice 4 Kd.bool)).sz = 1 from rfl, Nat.mul_one] at hv422_0
                   replace hv422_0 := Option.some.inj (hv422_0.symm.trans hx422_0)
                   rw [hv422_0] at ge422_0
                   have HL422_0 := aK (show Kd.R Kd.bool 4 _ _ _ _ (rd_L7 t416 x12_2) from ge422_0)
                   clear hv422_0 ge422_0; clear hcc422 hce422; have HR422_0 := aK hi422_0; have HC422_0 := aK hl422_0; clear hi422_0 hl422_0; replace p422 := eq_true p422; replace q422 := eq_true q422
                   have p423 : 0 ≤ (x10_1 : Int) := of_decide_eq_true (by first | (with_reducible assumption) | assumption)
                   have q423 : x10_1 < (t412.length : Int) := of_decide_eq_true (by first | (with_reducible assumption) | assumption)
                   obtain ⟨ad423, e423, hx423_0, hx423_1⟩ := at_T47 (Kd.R_reads' HO_6.out).2.2 x10_1 p423 q423
                   obtain rfl : ad419 = ad423 := (by injection e423)
                   replace p423 := eq_true p423; replace q423 := eq_true q423
                   have p424 : 0 ≤ (((rd_T47 t412 x10_1).f1) : Int) := of_decide_eq_true (by first | (with_reducible assumption) | assumption)
                   have q424 : ((rd_T47 t412 x10_1).f1) < ((rd_L7 t416 x12_2).length : Int) := of_decide_eq_true (by first | (with_reducible assumption) | assumption)
                   obtain ⟨ad424, e424, hx424_0⟩ := Kd.at_bool (by repeat (first | (with_reducible exact HR422_0.out) | (with_reducible refine Kd.C_alloc ?_ _) | (with_reducible refine Kd.C_drewN ?_ _) | (with_reducible refine Kd.C_drew ?_) | exact HR422_0.out)) ((rd_T47 t412 x10_1).f1) p424 q424
                   (try rw [← Nbq18.out] at hx424_0)
                   cases e424; replace p424 := eq_true p424; replace q424 := eq_true q424; go_wp2
                   repeat (go_quiet (fail); try go_wp2)
                   go_roundg k2
                   case measure => have := HK1.out; have := HK2.out; omega
                   case rel => exact ⟨(rdOf false (rd_L7 t416 x12_2) ((rd_T47 t412 x10_1).f1)), (wrap64 (x12_2 + 1)), (by first | rfl | (simp; done) | (simp [*]; done)), (by first | rfl | (simp; done) | (simp [*]; done)), H', ⟨by have := HK1.out; have := HK2.out; omega⟩, ⟨by (with_reducible repeat (first | apply Kd.R_alloc | apply Kd.R_drewN | apply Kd.R_drew)); exact HO_6.out⟩, ⟨by (with_reducible repeat (first | apply Kd.S_alloc | apply Kd.S_drewN | apply Kd.S_drew)); exact HO_8.out⟩, ⟨by (with_reducible repeat (first | apply Kd.R_alloc | apply Kd.R_drewN | apply Kd.R_drew)); exact HO_9.out⟩, ⟨by repeat (first | (with_reducible first | exact HB.out | apply bA_ | apply bN_ | apply bD_) | exact HB.out)⟩⟩
                  ·rw [if_neg c22] at H
                   exact absurd H (by simp)
                 ·rw [if_neg c21] at H
                  exact absurd H (by simp)
                ·rw [if_neg c20] at H
                 exact absurd H (by simp)
               ·replace c19 := Bool.eq_false_iff.mpr c19
                subst c19
                have H1 : (swarfref29_Reduce.l1 k2 a0 t412 t416 x9_1 x10_1 false (wrap64 (x12_2 + 1))) = some (r1, r2) := by rw [if_neg (show ¬ (false = true) by decide)] at H; exact H
                clear H; have H := H1; clear H1; have H' := aK H; clear H
                have p419 : 0 ≤ (x10_1 : Int) := of_decide_eq_true (by first | (with_reducible assumption) | assumption)
                have q419 : x10_1 < (t412.length : Int) := of_decide_eq_true (by first | (with_reducible assumption) | assumption)
                obtain ⟨ad419, e419, hx419_0, hx419_1⟩ := at_T47 (Kd.R_reads' HO_6.out).2.2 x10_1 p419 q419
                cases e419; replace p419 := eq_true p419; replace q419 := eq_true q419
                obtain ⟨Ao24, co24, eo24⟩ := Kd.S_slice HO_8.out
                subst eo24
                have p420 : 0 ≤ (((rd_T47 t412 x10_1).f0) : Int) := of_decide_eq_true (by first | (with_reducible assumption) | assumption)
                have q420 : ((rd_T47 t412 x10_1).f0) < (t416.length : Int) := of_decide_eq_true (by first | (with_reducible assumption) | assumption)
                obtain ⟨ad420, A420_0, c420_0, e420, hx420_0, hl420_0, hi420_0⟩ := at_L7 (Kd.S_reads' HO_8.out).2.2 ((rd_T47 t412 x10_1).f0) p420 q420
                cases e420
                obtain ⟨ce420, hce420, hMe420, hcc420⟩ := Kd.S_get HO_8.out [] ((rd_T47 t412 x10_1).f0) p420 (by first | exact q420 | exact of_decide_eq_true (by first | (with_reducible assumption) | assumption) | (have e_ := (Kd.S_reads' HO_8.out).1; omega))
                obtain ⟨ve420_0, rfl, ge420_0⟩ := hMe420
                have hv420_0 := hcc420 0 _ rfl
                rw [Nat.add_zero, show ((Kd.slice 4 Kd.bool)).sz = 1 from rfl, Nat.mul_one] at hv420_0
                replace hv420_0 := Option.some.inj (hv420_0.symm.trans hx420_0)
                rw [hv420_0] at ge420_0
                have HL420_0 := aK (show Kd.R Kd.bool 4 _ _ _ _ (rd_L7 t416 ((rd_T47 t412 x10_1).f0)) from ge420_0)
                clear hv420_0 ge420_0; clear hcc420 hce420; have HR420_0 := aK hi420_0; have HC420_0 := aK hl420_0; clear hi420_0 hl420_0; replace p420 := eq_true p420; replace q420 := eq_true q420
                have p421 : 0 ≤ (x12_2 : Int) := of_decide_eq_true (by first | (with_reducible assumption) | assumption)
                have q421 : x12_2 < ((rd_L7 t416 ((rd_T47 t412 x10_1).f0)).length : Int) := of_decide_eq_true (by first | (with_reducible assumption) | assumption)
                obtain ⟨ad421, e421, hx421_0⟩ := Kd.at_bool (by repeat (first | (with_reducible exact HR420_0.out) | (with_reducible refine Kd.C_alloc ?_ _) | (with_reducible refine Kd.C_drewN ?_ _) | (with_reducible refine Kd.C_drew ?_) | exact HR420_0.out)) x12_2 p421 q421
                (try rw [← Nbq18.out] at hx421_0)
                cases e421; replace p421 := eq_true p421; replace q421 := eq_true q421; go_wp2
                repeat (go_quiet (fail); try go_wp2)
                go_roundg k2
                case measure => have := HK1.out; have := HK2.out; omega
                case rel => exact ⟨(false), (wrap64 (x12_2 + 1)), (by first | rfl | (simp; done) | (simp [*]; done)), (by first | rfl | (simp; done) | (simp [*]; done)), H', ⟨by have := HK1.out; have := HK2.out; omega⟩, ⟨by (with_reducible repeat (first | apply Kd.R_alloc | apply Kd.R_drewN | apply Kd.R_drew)); exact HO_6.out⟩, ⟨by (with_reducible repeat (first | apply Kd.S_alloc | apply Kd.S_drewN | apply Kd.S_drew)); exact HO_8.out⟩, ⟨by (with_reducible repeat (first | apply Kd.R_alloc | apply Kd.R_drewN | apply Kd.R_drew)); exact HO_9.out⟩, ⟨by repeat (first | (with_reducible first | exact HB.out | apply bA_ | apply bN_ | apply bD_) | exact HB.out)⟩⟩
              ·rw [if_neg c17] at H
               exact absurd H (by simp)
             ·rw [if_neg c16] at H
              exact absurd H (by simp)
            ·rw [if_neg c15] at H
             exact absurd H (by simp)
           ·rw [if_neg c14] at H
            exact absurd H (by simp)
          ·rw [if_neg c13] at H
           exact absurd H (by simp)
         ·rw [if_neg c12] at H
          exact absurd H (by simp)
       ·rw [if_neg c10] at H
        have c10b0 : decide (x12_2 < a0) = false := decide_eq_false c10
        clear c10
        by_cases c25 : x11_2 = true
        ·subst c25
         have H1 : (swarfref29_Reduce.l0 k2 a0 t412 t416 x9_1 (wrap64 (x10_1 + 1))) = some (r1, r2) := by rw [if_pos rfl] at H; exact H
         clear H; have H := H1; clear H1; have H' := aK H; clear H; go_wp2
         repeat (go_quiet (fail); try go_wp2)
         go_roundg k2
         case measure => have := HK1.out; have := HK2.out; omega
         case rel => exact ⟨(x9_1), (wrap64 (x10_1 + 1)), (by first | rfl | (simp; done) | (simp [*]; done)), H', ⟨by have := HK1.out; have := HK2.out; omega⟩, ⟨by (with_reducible repeat (first | apply Kd.R_alloc | apply Kd.R_drewN | apply Kd.R_drew)); exact HO_6.out⟩, ⟨by (with_reducible repeat (first | apply Kd.S_alloc | apply Kd.S_drewN | apply Kd.S_drew)); exact HO_8.out⟩, ⟨by (with_reducible repeat (first | apply Kd.R_alloc | apply Kd.R_drewN | apply Kd.R_drew)); exact HO_9.out⟩, ⟨by repeat (first | (with_reducible first | exact HB.out | apply bA_ | apply bN_ | apply bD_) | exact HB.out)⟩⟩
        ·replace c25 := Bool.eq_false_iff.mpr c25
         subst c25
         have H1 : (if 0 ≤ x10_1 then (if x10_1 < (t412.length : Int) then (if x9_1.length < 8796093022208 then (swarfref29_Reduce.l0 k2 a0 t412 t416 (x9_1 ++ [(⟨(rd_T47 t412 x10_1).f0, (rd_T47 t412 x10_1).f1⟩ : S47)]) (wrap64 (x10_1 + 1))) else (none)) else (none)) else (none)) = some (r1, r2) := by rw [if_neg (show ¬ (false = true) by decide)] at H; exact H
         clear H; have H := H1; clear H1
         by_cases c26 : 0 ≤ x10_1
         ·rw [if_pos c26] at H
          have c26b0 : decide (0 ≤ x10_1) = true := decide_eq_true c26
          clear c26
          by_cases c27 : x10_1 < (t412.length : Int)
          ·rw [if_pos c27] at H
           have c27b0 : decide (x10_1 < (t412.length : Int)) = true := decide_eq_true c27
           clear c27
           by_cases c28 : x9_1.length < 8796093022208
           ·rw [if_pos c28] at H; have LMc28 := aK c28; clear c28
            obtain ⟨y426, hy426⟩ : ∃ y_ : List (S47), y_ = (x9_1 ++ [(⟨(rd_T47 t412 x10_1).f0, (rd_T47 t412 x10_1).f1⟩ : S47)]) := ⟨_, rfl⟩
            replace H : (swarfref29_Reduce.l0 k2 a0 t412 t416 y426 (wrap64 (x10_1 + 1))) = some (r1, r2) := by first | (rw [hy426]; with_reducible exact H) | (have H2_ := (Option.bind_some _ _).symm.trans H; rw [hy426]; with_reducible exact H2_) | (have H2_ := (Option.bind_some _ _).symm.trans H; with_reducible exact H2_) | with_reducible exact H | (rw [hy426]; exact H) | exact H
            have Ny426 := aK hy426; clear hy426; have H' := aK H; clear H
            have p425 : 0 ≤ (x10_1 : Int) := of_decide_eq_true (by first | (with_reducible assumption) | assumption)
            have q425 : x10_1 < (t412.length : Int) := of_decide_eq_true (by first | (with_reducible assumption) | assumption)
            obtain ⟨ad425, e425, hx425_0, hx425_1⟩ := at_T47 (Kd.R_reads' HO_6.out).2.2 x10_1 p425 q425
            cases e425; replace p425 := eq_true p425; replace q425 := eq_true q425
            go_wp2_with (first | ((with_reducible refine gate_builtin (b := .append) (xs := #[.tmp 65, .tmp 70]) rfl ?_); at_builtin; refine Kd.R_append k47 (w0 := w) w.heap.size rfl (.tmp 65) (.tmp 70) 22 47 (.agg #[(.int .i64 0), (.int .i64 0)]) 16 rfl Try.underlying22 info47 rfl (by decide) (by omega) u9 x9_1 (⟨(rd_T47 t412 x10_1).f0, (rd_T47 t412 x10_1).f1⟩ : S47) [.int .i64 ((rd_T47 t412 x10_1).f0), .int .i64 ((rd_T47 t412 x10_1).f1)] (fun k_ => some k_ ≠ (.slice (some ad425) t412.length co9 : Value).ownBlock) (fun _ => False) rfl rfl ?aP (fun _ hk => hk.elim) ?aF ?aO ?aB ?aS ?aL ?_; (case aP => exact k47_mkM _ _ _ (⟨(rd_T47 t412 x10_1).f0, (rd_T47 t412 x10_1).f1⟩ : S47)); (case aB => exact (by repeat (first | (with_reducible first | exact HB.out | apply bA_ | apply bN_ | apply bD_) | exact HB.out))); (case aF => exact (fun k_ hk => Kd.fresh' (Kd.R_lt (by (with_reducible repeat (first | apply Kd.R_alloc | apply Kd.R_drewN | apply Kd.R_drew)); exact HO_6.out)) k_ hk)); (case aO => exact (by (with_reducible repeat (first | apply Kd.R_alloc | apply Kd.R_drewN | apply Kd.R_drew)); exact HO_9.out)); (case aS => exact (bZ_ (by repeat (first | (with_reducible first | exact HB.out | apply bA_ | apply bN_ | apply bD_) | exact HB.out)))); (case aL => have := LMc28.out; omega); intro v427 w29 ho hb hg hat; rw [← Ny426.out] at ho; have n0_ := aK (Kd.R_after (ok := (fun _ => True)) (by (with_reducible repeat (first | apply Kd.R_alloc | apply Kd.R_drewN | apply Kd.R_drew)); exact Kd.R_mono HO_6.out (fun _ hk => ⟨trivial, hk⟩)) hg hat); have n1_ := aK (Kd.S_over' (by (with_reducible repeat (first | apply Kd.S_alloc | apply Kd.S_drewN | apply Kd.S_drew)); exact HO_8.out) (Kd.R_typed (by (with_reducible repeat (first | apply Kd.R_alloc | apply Kd.R_drewN | apply Kd.R_drew)); exact HO_9.out)) (by decide) hg); have n2_ := aK (hb); have n3_ := aK (ho); clear HO_6; clear HO_8; clear HB; clear HO_9; have HO_6 := n0_; have HO_8 := n1_; have HB := n2_; have HO428 := n3_; clear n0_ n1_ n2_ n3_; clear ho hb hg hat))
            repeat (go_quiet (first | ((with_reducible refine gate_builtin (b := .append) (xs := #[.tmp 65, .tmp 70]) rfl ?_); at_builtin; refine Kd.R_append k47 (w0 := w) w.heap.size rfl (.tmp 65) (.tmp 70) 22 47 (.agg #[(.int .i64 0), (.int .i64 0)]) 16 rfl Try.underlying22 info47 rfl (by decide) (by omega) u9 x9_1 (⟨(rd_T47 t412 x10_1).f0, (rd_T47 t412 x10_1).f1⟩ : S47) [.int .i64 ((rd_T47 t412 x10_1).f0), .int .i64 ((rd_T47 t412 x10_1).f1)] (fun k_ => some k_ ≠ (.slice (some ad425) t412.length co9 : Value).ownBlock) (fun _ => False) rfl rfl ?aP (fun _ hk => hk.elim) ?aF ?aO ?aB ?aS ?aL ?_; (case aP => exact k47_mkM _ _ _ (⟨(rd_T47 t412 x10_1).f0, (rd_T47 t412 x10_1).f1⟩ : S47)); (case aB => exact (by repeat (first | (with_reducible first | exact HB.out | apply bA_ | apply bN_ | apply bD_) | exact HB.out))); (case aF => exact (fun k_ hk => Kd.fresh' (Kd.R_lt (by (with_reducible repeat (first | apply Kd.R_alloc | apply Kd.R_drewN | apply Kd.R_drew)); exact HO_6.out)) k_ hk)); (case aO => exact (by (with_reducible repeat (first | apply Kd.R_alloc | apply Kd.R_drewN | apply Kd.R_drew)); exact HO_9.out)); (case aS => exact (bZ_ (by repeat (first | (with_reducible first | exact HB.out | apply bA_ | apply bN_ | apply bD_) | exact HB.out)))); (case aL => have := LMc28.out; omega); intro v427 w29 ho hb hg hat; rw [← Ny426.out] at ho; have n0_ := aK (Kd.R_after (ok := (fun _ => True)) (by (with_reducible repeat (first | apply Kd.R_alloc | apply Kd.R_drewN | apply Kd.R_drew)); exact Kd.R_mono HO_6.out (fun _ hk => ⟨trivial, hk⟩)) hg hat); have n1_ := aK (Kd.S_over' (by (with_reducible repeat (first | apply Kd.S_alloc | apply Kd.S_drewN | apply Kd.S_drew)); exact HO_8.out) (Kd.R_typed (by (with_reducible repeat (first | apply Kd.R_alloc | apply Kd.R_drewN | apply Kd.R_drew)); exact HO_9.out)) (by decide) hg); have n2_ := aK (hb); have n3_ := aK (ho); clear HO_6; clear HO_8; clear HB; clear HO_9; have HO_6 := n0_; have HO_8 := n1_; have HB := n2_; have HO428 := n3_; clear n0_ n1_ n2_ n3_; clear ho hb hg hat)); try go_wp2_with (first | ((with_reducible refine gate_builtin (b := .append) (xs := #[.tmp 65, .tmp 70]) rfl ?_); at_builtin; refine Kd.R_append k47 (w0 := w) w.heap.size rfl (.tmp 65) (.tmp 70) 22 47 (.agg #[(.int .i64 0), (.int .i64 0)]) 16 rfl Try.underlying22 info47 rfl (by decide) (by omega) u9 x9_1 (⟨(rd_T47 t412 x10_1).f0, (rd_T47 t412 x10_1).f1⟩ : S47) [.int .i64 ((rd_T47 t412 x10_1).f0), .int .i64 ((rd_T47 t412 x10_1).f1)] (fun k_ => some k_ ≠ (.slice (some ad425) t412.length co9 : Value).ownBlock) (fun _ => False) rfl rfl ?aP (fun _ hk => hk.elim) ?aF ?aO ?aB ?aS ?aL ?_; (case aP => exact k47_mkM _ _ _ (⟨(rd_T47 t412 x10_1).f0, (rd_T47 t412 x10_1).f1⟩ : S47)); (case aB => exact (by repeat (first | (with_reducible first | exact HB.out | apply bA_ | apply bN_ | apply bD_) | exact HB.out))); (case aF => exact (fun k_ hk => Kd.fresh' (Kd.R_lt (by (with_reducible repeat (first | apply Kd.R_alloc | apply Kd.R_drewN | apply Kd.R_drew)); exact HO_6.out)) k_ hk)); (case aO => exact (by (with_reducible repeat (first | apply Kd.R_alloc | apply Kd.R_drewN | apply Kd.R_drew)); exact HO_9.out)); (case aS => exact (bZ_ (by repeat (first | (with_reducible first | exact HB.out | apply bA_ | apply bN_ | apply bD_) | exact HB.out)))); (case aL => have := LMc28.out; omega); intro v427 w29 ho hb hg hat; rw [← Ny426.out] at ho; have n0_ := aK (Kd.R_after (ok := (fun _ => True)) (by (with_reducible repeat (first | apply Kd.R_alloc | apply Kd.R_drewN | apply Kd.R_drew)); exact Kd.R_mono HO_6.out (fun _ hk => ⟨trivial, hk⟩)) hg hat); have n1_ := aK (Kd.S_over' (by (with_reducible repeat (first | apply Kd.S_alloc | apply Kd.S_drewN | apply Kd.S_drew)); exact HO_8.out) (Kd.R_typed (by (with_reducible repeat (first | apply Kd.R_alloc | apply Kd.R_drewN | apply Kd.R_drew)); exact HO_9.out)) (by decide) hg); have n2_ := aK (hb); have n3_ := aK (ho); clear HO_6; clear HO_8; clear HB; clear HO_9; have HO_6 := n0_; have HO_8 := n1_; have HB := n2_; have HO428 := n3_; clear n0_ n1_ n2_ n3_; clear ho hb hg hat)))
            go_roundg k2
            case measure => have := HK1.out; have := HK2.out; omega
            case rel => exact ⟨(y426), (wrap64 (x10_1 + 1)), (by first | rfl | (simp; done) | (simp [*]; done)), H', ⟨by have := HK1.out; have := HK2.out; omega⟩, ⟨by (with_reducible repeat (first | apply Kd.R_alloc | apply Kd.R_drewN | apply Kd.R_drew)); exact Kd.R_mono HO_6.out (fun _ hk => hk.2)⟩, ⟨by (with_reducible repeat (first | apply Kd.S_alloc | apply Kd.S_drewN | apply Kd.S_drew)); exact HO_8.out⟩, ⟨by (with_reducible repeat (first | apply Kd.R_alloc | apply Kd.R_drewN | apply Kd.R_drew)); exact HO428.out⟩, ⟨by repeat (first | (with_reducible first | exact HB.out | apply bA_ | apply bN_ | apply bD_) | exact HB.out)⟩⟩
           ·rw [if_neg c28] at H
            exact absurd H (by simp)
          ·rw [if_neg c27] at H
           exact absurd H (by simp)
         ·rw [if_neg c26] at H
          exact absurd H (by simp)
    ·rw [if_neg c8] at H
     have c8b0 : decide (x10_1 < (t412.length : Int)) = false := decide_eq_false c8
     clear c8
     simp only [Option.some.injEq, Prod.mk.injEq] at H
     obtain ⟨rfl, rfl⟩ := H
     obtain ⟨Ao30, co30, eo30⟩ := Kd.R_slice HO_6.out
     subst eo30; go_wp2
     repeat (go_quiet (fail); try go_wp2)
     go_ret2
     exact ⟨_, by first | rfl | (simp [errW_none, errW_some] <;> rfl) | (simp [*, errW_none, errW_some] <;> rfl), by (with_reducible repeat (first | apply Kd.R_alloc | apply Kd.R_drewN | apply Kd.R_drew)); exact Kd.R_mono HO_9.out (fun _ hk => trivial), by repeat (first | (with_reducible first | exact HB.out | apply bA_ | apply bN_ | apply bD_) | exact HB.out)⟩
 ·rw [if_neg c4] at H
  have c4b0 : (t413 == 0) = false := beq_eq_false_iff_ne.mpr c4
  have c4b1 : (t413 != 0) = true := bne_iff_ne.mpr c4
  simp only [Option.some.injEq, Prod.mk.injEq] at H
  obtain ⟨rfl, rfl⟩ := H
  go_enter Try.func33, Try.ntmps33
  go_wp2_with (first | (go_at_call 32; (with_reducible refine (swarfref29_Closure.calls k a0 _ _ l1 t412 t413 _ ?side1 ?side2 A3.out).mono ?_); (case side1 => repeat (first | exact HR1.out | (with_reducible refine Kd.C_alloc ?_ _) | (with_reducible refine Kd.C_drewN ?_ _) | (with_reducible refine Kd.C_drew ?_))); (case side2 => exact HC1.out); rintro e w31 ⟨v414, rfl, ho0, hb⟩; have n0_ := aK (Kd.R_lower ho0 (bZ_ (by repeat (first | (with_reducible first | exact HB.out | apply bA_ | apply bN_ | apply bD_) | exact HB.out)))); have n1_ := aK (bT_ (by repeat (first | (with_reducible first | exact HB.out | apply bA_ | apply bN_ | apply bD_) | exact HB.out)) hb); clear HB; have HO415 := n0_; have HB := n1_; clear n0_ n1_; (try clear hb); (try clear hb2); (try clear hk); (try clear hi); (try clear ho0)))
  repeat (go_quiet (first | (go_at_call 32; (with_reducible refine (swarfref29_Closure.calls k a0 _ _ l1 t412 t413 _ ?side1 ?side2 A3.out).mono ?_); (case side1 => repeat (first | exact HR1.out | (with_reducible refine Kd.C_alloc ?_ _) | (with_reducible refine Kd.C_drewN ?_ _) | (with_reducible refine Kd.C_drew ?_))); (case side2 => exact HC1.out); rintro e w31 ⟨v414, rfl, ho0, hb⟩; have n0_ := aK (Kd.R_lower ho0 (bZ_ (by repeat (first | (with_reducible first | exact HB.out | apply bA_ | apply bN_ | apply bD_) | exact HB.out)))); have n1_ := aK (bT_ (by repeat (first | (with_reducible first | exact HB.out | apply bA_ | apply bN_ | apply bD_) | exact HB.out)) hb); clear HB; have HO415 := n0_; have HB := n1_; clear n0_ n1_; (try clear hb); (try clear hb2); (try clear hk); (try clear hi); (try clear ho0))); try go_wp2_with (first | (go_at_call 32; (with_reducible refine (swarfref29_Closure.calls k a0 _ _ l1 t412 t413 _ ?side1 ?side2 A3.out).mono ?_); (case side1 => repeat (first | exact HR1.out | (with_reducible refine Kd.C_alloc ?_ _) | (with_reducible refine Kd.C_drewN ?_ _) | (with_reducible refine Kd.C_drew ?_))); (case side2 => exact HC1.out); rintro e w31 ⟨v414, rfl, ho0, hb⟩; have n0_ := aK (Kd.R_lower ho0 (bZ_ (by repeat (first | (with_reducible first | exact HB.out | apply bA_ | apply bN_ | apply bD_) | exact HB.out)))); have n1_ := aK (bT_ (by repeat (first | (with_reducible first | exact HB.out | apply bA_ | apply bN_ | apply bD_) | exact HB.out)) hb); clear HB; have HO415 := n0_; have HB := n1_; clear n0_ n1_; (try clear hb); (try clear hb2); (try clear hk); (try clear hi); (try clear ho0))))
  go_ret2
  exact ⟨_, by first | rfl | (simp [errW_none, errW_some] <;> rfl) | (simp [*, errW_none, errW_some] <;> rfl), by first | exact Kd.R_nil _ _ _ _ _ | exact Kd.N_nil _ _ _ _ _ | exact Kd.V_nil _ _ _ _ _ | exact Kd.Q_nil _ _ _ _ _ | exact Kd.S_nil _ _ _ _ _, by repeat (first | (with_reducible first | exact HB.out | apply bA_ | apply bN_ | apply bD_) | exact HB.out)⟩

end Go.Proofs.Ytbbkclcfmcjlgaa.P



namespace Go.Proofs.Ytbbkclcfmcjlgaa.B
open Go.RowKit Go.Proofs.Ytbbkclcfmcjlgaa.P Go.Proofs.Ytbbkclcfmcjlgaa.Gr Go.Proofs.YtbbkclcfmcjlgaaW.PrintWords Go.Proofs.YtbbkclcfmcjlgaaW.PrintLast Go.Proofs.YtbbkclcfmcjlgaaW.PrintMore
set_option linter.unusedVariables false
set_option linter.unusedSimpArgs false

theorem mt_out {m : List (List Bool)} {a b : Int} (h : ((rd_L7 m a).length : Int) ≤ b) : mt m a b = false := by
 unfold mt rdOf
 rw [List.getD_eq_getElem?_getD, List.getElem?_eq_none (by omega)]; rfl
theorem mt_same {m m' : List (List Bool)} {a : Int} (h : rd_L7 m' a = rd_L7 m a) (b : Int) : mt m' a b = mt m a b := by unfold mt; rw [h]
def Row (n i : Int) (m m' : List (List Bool)) : Prop := m'.length = m.length ∧ ((rd_L7 m' i).length : Int) = n ∧ ∀ a, 0 ≤ a → a ≠ i → rd_L7 m' a = rd_L7 m a
theorem Row.trans {n i : Int} {m m' m'' : List (List Bool)} (h : Row n i m m') (k : Row n i m' m'') : Row n i m m'' :=
 ⟨k.1.trans h.1, k.2.1, fun a a0 ha => (k.2.2 a a0 ha).trans (h.2.2 a a0 ha)⟩
theorem Row.set {n i : Int} {m : List (List Bool)} (i0 : 0 ≤ i) (i1 : i < (m.length : Int)) (r : List Bool) (hr : (r.length : Int) = n) : Row n i m (m.set i.toNat r) :=
 ⟨by rw [List.length_set], by rw [rd_set_self _ _ _ i0 i1]; exact hr, fun a a0 ha => rd_set_ne _ _ _ _ i0 a0 ha⟩
theorem st_row {n i : Int} {m : List (List Bool)} (i0 : 0 ≤ i) (i1 : i < (m.length : Int)) (hr : ((rd_L7 m i).length : Int) = n) {j : Int} (j0 : 0 ≤ j) (j1 : j < n) (v : Bool) : Row n i m (st m i j v) ∧ ∀ b, 0 ≤ b → mt (st m i j v) i b = if b = j then v else mt m i b := by
 refine ⟨Row.set i0 i1 _ (by rw [List.length_set]; exact hr), fun b b0 => ?_⟩
 unfold mt st
 rw [rd_set_self _ _ _ i0 i1]
 by_cases e : b = j
 ·subst e; rw [if_pos rfl, of_set_self _ _ _ j0 (by omega)]
 ·rw [if_neg e, of_set_ne _ _ _ _ j0 b0 e]
theorem or_ok {n i k : Int} (hik : k ≠ i) (i0 : 0 ≤ i) (k0 : 0 ≤ k) (d : Nat) : ∀ (j : Int) (m : List (List Bool)), 0 ≤ j → j + d = n → i < (m.length : Int) → ((rd_L7 m i).length : Int) = n → Row n i m (reach.or i k d j m) ∧ ∀ b, 0 ≤ b → b < n → mt (reach.or i k d j m) i b = if j ≤ b then (mt m i b || mt m k b) else mt m i b := by
 induction d with
 | zero =>
  intro j m j0 hj i1 hr
  exact ⟨⟨rfl, hr, fun _ _ _ => rfl⟩, fun b b0 b1 => by rw [if_neg (by omega)]; rfl⟩
 | succ d ih =>
  intro j m j0 hj i1 hr
  obtain ⟨h1, h2⟩ := st_row i0 i1 hr j0 (by omega) (mt m i j || mt m k j)
  obtain ⟨h3, h4⟩ := ih (j + 1) (st m i j (mt m i j || mt m k j)) (by omega) (by omega) (by rw [h1.1]; exact i1) h1.2.1
  refine ⟨h1.trans h3, fun b b0 b1 => ?_⟩
  have e : reach.or i k (d + 1) j m = reach.or i k d (j + 1) (st m i j (mt m i j || mt m k j)) := rfl
  rw [e, h4 b b0 b1, h2 b b0, mt_same (h1.2.2 k k0 hik) b]
  by_cases e1 : b = j
  ·subst e1; rw [if_neg (by omega), if_pos rfl, if_pos (by omega)]
  ·rw [if_neg e1]
   by_cases e2 : j ≤ b
   ·rw [if_pos (by omega), if_pos e2]
   ·rw [if_neg (by omega), if_neg e2]
theorem one_ok {n i k : Int} (hik : k ≠ i) (i0 : 0 ≤ i) (k0 : 0 ≤ k) (k1 : k < n) (m : List (List Bool)) (i1 : i < (m.length : Int)) (hr : ((rd_L7 m i).length : Int) = n) (hk : ((rd_L7 m k).length : Int) = n) : Row n i m (reach.one i k m) ∧ ∀ b, 0 ≤ b → b < n → (mt (reach.one i k m) i b = true ↔ mt m i b = true ∨ b = k ∨ mt m k b = true) := by
 have e : reach.one i k m = reach.or i k (rd_L7 (st m i k true) k).length 0 (st m i k true) := rfl
 obtain ⟨h1, h2⟩ := st_row i0 i1 hr k0 k1 true
 have hk2 : rd_L7 (st m i k true) k = rd_L7 m k := h1.2.2 k k0 hik
 obtain ⟨h3, h4⟩ := or_ok hik i0 k0 (rd_L7 (st m i k true) k).length 0 (st m i k true) (by omega) (by rw [hk2]; omega) (by rw [h1.1]; exact i1) h1.2.1
 rw [e]
 refine ⟨h1.trans h3, fun b b0 b1 => ?_⟩
 rw [h4 b b0 b1, if_pos b0, h2 b b0, mt_same hk2 b]
 by_cases e1 : b = k
 ·simp [e1]
 ·simp [e1]
theorem row_ok {n i : Int} (i0 : 0 ≤ i) (ks : List Int) : ∀ (m : List (List Bool)), i < (m.length : Int) → ((rd_L7 m i).length : Int) = n → (∀ k ∈ ks, k ≠ i ∧ (0 ≤ k ∧ k < n) ∧ ((rd_L7 m k).length : Int) = n) → Row n i m (reach.row i ks m) ∧ ∀ b, 0 ≤ b → b < n → (mt (reach.row i ks m) i b = true ↔ mt m i b = true ∨ ∃ k ∈ ks, b = k ∨ mt m k b = true) := by
 induction ks with
 | nil => exact fun m i1 hr _ => ⟨⟨rfl, hr, fun _ _ _ => rfl⟩, fun b _ _ => by simp [reach.row]⟩
 | cons k ks ih =>
  intro m i1 hr hks
  have hk := hks k List.mem_cons_self
  obtain ⟨h1, h2⟩ := one_ok hk.1 i0 hk.2.1.1 hk.2.1.2 m i1 hr hk.2.2
  obtain ⟨h3, h4⟩ := ih (reach.one i k m) (by rw [h1.1]; exact i1) h1.2.1 (fun k' hk' => by
   have := hks k' (List.mem_cons_of_mem _ hk')
   rw [h1.2.2 k' this.2.1.1 this.1]
   exact this)
  have e : reach.row i (k :: ks) m = reach.row i ks (reach.one i k m) := rfl
  rw [e]
  refine ⟨h1.trans h3, fun b b0 b1 => ?_⟩
  rw [h4 b b0 b1, h2 b b0 b1]
  have hs : (∃ k' ∈ ks, b = k' ∨ mt (reach.one i k m) k' b = true) ↔ ∃ k' ∈ ks, b = k' ∨ mt m k' b = true := by
   constructor
   ·rintro ⟨k', hk', h⟩
    have := hks k' (List.mem_cons_of_mem _ hk')
    rw [mt_same (h1.2.2 k' this.2.1.1 this.1)] at h
    exact ⟨k', hk', h⟩
   ·rintro ⟨k', hk', h⟩
    have := hks k' (List.mem_cons_of_mem _ hk')
    rw [← mt_same (h1.2.2 k' this.2.1.1 this.1)] at h
    exact ⟨k', hk', h⟩
  rw [hs]
  simp only [List.mem_cons, exists_eq_or_imp, or_assoc]
def Done (n : Int) (R : Int → Int → Prop) (q : List Int) (m : List (List Bool)) : Prop := (m.length : Int) = n ∧ ∀ a ∈ q, ((rd_L7 m a).length : Int) = n ∧ ∀ b, 0 ≤ b → (mt m a b = true ↔ Tc R a b)
theorem step_ok {n : Int} {l : List S47} (hok : ∀ p ∈ l, okp n p = true) {bh : List (List Int)} {q : List Int} {m : List (List Bool)} {i : Int} (hb : rd_L3 bh i = beh l i) (i0 : 0 ≤ i) (i1 : i < n) (hiq : ¬ i ∈ q) (hq0 : ∀ x ∈ q, 0 ≤ x ∧ x < n) (hs : ∀ k, Rl l i k → k ∈ q) (h : Done n (Rl l) q m) : Done n (Rl l) (i :: q) (reach.step n bh m i) := by
 have hl := h.1
 have hin := rl_inn hok
 have hrow : Row n i m (m.set i.toNat (List.replicate n.toNat false)) := Row.set i0 (by omega) _ (by rw [List.length_replicate]; omega)
 have hne : ∀ k ∈ q, k ≠ i := fun k hk e => hiq (e ▸ hk)
 obtain ⟨h1, h2⟩ := row_ok i0 (rd_L3 bh i) (m.set i.toNat (List.replicate n.toNat false)) (by rw [hrow.1]; omega) hrow.2.1 (fun k hk => by
  rw [hb, mem_beh] at hk
  have hkq := hs k hk
  refine ⟨hne k hkq, hq0 k hkq, ?_⟩
  rw [hrow.2.2 k (hq0 k hkq).1 (hne k hkq)]
  exact (h.2 k hkq).1)
 have e : reach.step n bh m i = reach.row i (rd_L3 bh i) (m.set i.toNat (List.replicate n.toNat false)) := rfl
 rw [e]
 have ht := hrow.trans h1
 refine ⟨by rw [ht.1]; exact hl, fun a ha => ?_⟩
 rcases List.mem_cons.1 ha with rfl | ha
 ·refine ⟨h1.2.1, fun b b0 => ?_⟩
  by_cases b1 : b < n
  ·rw [h2 b b0 b1]
   have hf : mt (m.set a.toNat (List.replicate n.toNat false)) a b = false := by
    unfold mt
    rw [rd_set_self _ _ _ i0 (by omega)]
    unfold rdOf
    rw [List.getD_eq_getElem?_getD, List.getElem?_replicate]
    split <;> rfl
   rw [hf, hb]
   constructor
   ·rintro (hx | ⟨k, hk, hx⟩)
    ·cases hx
    ·rw [mem_beh] at hk
     have hkq := hs k hk
     rw [mt_same (hrow.2.2 k (hq0 k hkq).1 (hne k hkq)), (h.2 k hkq).2 b b0] at hx
     exact Tc.of_head hk (hx.imp Eq.symm id)
   ·intro ht
    obtain ⟨k, hk, hx⟩ := ht.head
    have hkq := hs k hk
    refine .inr ⟨k, (mem_beh _ _ _).2 hk, ?_⟩
    rw [mt_same (hrow.2.2 k (hq0 k hkq).1 (hne k hkq)), (h.2 k hkq).2 b b0]
    exact hx.imp Eq.symm id
  ·constructor
   ·intro hx
    rw [mt_out (by rw [h1.2.1]; omega)] at hx
    cases hx
   ·exact fun hx => absurd (hx.inn hin).2.2 b1
 ·rw [ht.2.2 a (hq0 a ha).1 (hne a ha)]
  refine ⟨(h.2 a ha).1, fun b b0 => ?_⟩
  rw [mt_same (ht.2.2 a (hq0 a ha).1 (hne a ha))]
  exact (h.2 a ha).2 b b0
theorem fold_ok {n : Int} {l : List S47} (hok : ∀ p ∈ l, okp n p = true) {bh : List (List Int)} (hb : ∀ i, 0 ≤ i → i < n → rd_L3 bh i = beh l i) {o : List Int} (ho : Lst n l o) (hol : (o.length : Int) = n) (m0 : List (List Bool)) (hm0 : (m0.length : Int) = n) : ∀ (q p : List Int), o = p ++ q → Done n (Rl l) q (q.foldr (fun i m => reach.step n bh m i) m0) := by
 intro q
 induction q with
 | nil => exact fun p _ => ⟨hm0, fun a ha => by cases ha⟩
 | cons i q ih =>
  intro p hp
  have hin := rl_inn hok
  have h1 := ih (p ++ [i]) (by rw [hp, List.append_assoc]; rfl)
  have hnd := ho.1
  rw [hp, List.nodup_append] at hnd
  have hiq := (List.nodup_cons.1 hnd.2.1).1
  have hi := ho.2.1 i (by rw [hp]; simp)
  refine step_ok hok (hb i hi.1 hi.2) hi.1 hi.2 hiq (fun x hx => ho.2.1 x (by rw [hp]; simp [hx])) (fun k hk => ?_) h1
  have hkr := (hin _ _ hk).2
  have hm := full_in ho.1 ho.2.1 hol k hkr.1 hkr.2
  rw [hp] at hm
  rcases List.mem_append.1 hm with hm | hm
  ·exfalso
   obtain ⟨j, hj⟩ := List.getElem?_of_mem hm
   obtain ⟨hjl, _⟩ := List.getElem?_eq_some_iff.1 hj
   have ht := ho.2.2 j k (by rw [hp, List.getElem?_append_left hjl]; exact hj) i hk
   rw [hp, List.take_append_of_le_length (by omega)] at ht
   exact hnd.2.2 i (List.mem_of_mem_take ht) i List.mem_cons_self rfl
  ·rcases List.mem_cons.1 hm with rfl | hm
   ·exact absurd rfl (rl_ne hok hk)
   ·exact hm

def ReOk (n : Int) (l : List S47) (t : List (List Bool) × Int) : Prop :=
 (vErr n l ≠ 0 ∧ t = ([], vErr n l)) ∨ (vErr n l = 0 ∧ ¬ Acyc (Rl l) ∧ t = ([], 12)) ∨ (vErr n l = 0 ∧ Acyc (Rl l) ∧ t.2 = 0 ∧ Tab n (Rl l) t.1)
theorem reach_ev (n : Int) (l : List S47) (hl : l.length ≤ 100000000000000) : EvP (fun f => reach.f f n l) (ReOk n l) := by
 unfold reach.f
 refine EvP.bindP (order_ev n l hl) (fun t ht => ?_)
 rcases ht with ⟨h1, rfl⟩ | ⟨h1, h2, rfl⟩ | ⟨h1, h2, h3, h4, h5⟩
 ·simp only [if_neg h1]
  exact ⟨_, Ev.now _, .inl ⟨h1, rfl⟩⟩
 ·simp only [if_neg (show ¬ (12 : Int) = 0 by decide)]
  exact ⟨_, Ev.now _, .inr (.inl ⟨h1, h2, rfl⟩)⟩
 ·simp only [if_pos h3]
  obtain ⟨k1, k2, k3, k4⟩ := vErr_zero h1
  refine EvP.bindP (read_ev h1) (fun u hu => ?_)
  have hlst := h4.lst
  have e1 : reach.ok n t.1 = true := by
   unfold reach.ok
   rw [List.all_eq_true]
   intro x hx
   have := hlst.2.1 x hx
   simp [this.1, this.2]
  have e2 : u.2.all (reach.ok n) = true := by
   rw [List.all_eq_true]
   intro r hr
   obtain ⟨i, hi⟩ := List.getElem?_of_mem hr
   obtain ⟨hil, hi2⟩ := List.getElem?_eq_some_iff.1 hi
   have h7 := (hu.2.2 (i : Int) (by omega) (by have := hu.2.1; omega)).2
   unfold rd_L3 at h7
   rw [List.getD_eq_getElem?_getD, Int.toNat_natCast, hi] at h7
   unfold reach.ok
   rw [List.all_eq_true]
   intro x hx
   have h8 : x ∈ beh l i := by rw [← h7]; exact hx
   have := ((rl_inn k4) _ _ ((mem_beh _ _ _).1 h8)).2
   simp [this.1, this.2]
  simp only [if_pos (show 0 ≤ n ∧ n.toNat ≤ 11728124029610 ∧ t.1.length ≤ 140737488351232 ∧ (u.2.length : Int) = n ∧ reach.ok n t.1 = true ∧ u.2.all (reach.ok n) = true from ⟨k1, by omega, by omega, hu.2.1, e1, e2⟩)]
  refine ⟨_, Ev.now _, .inr (.inr ⟨h1, h2, rfl, ?_⟩)⟩
  have hf := fold_ok k4 (bh := u.2) (fun i i0 i1 => (hu.2.2 i i0 i1).2) hlst h5 (List.replicate n.toNat []) (by rw [List.length_replicate]; omega) t.1 [] rfl
  rw [← List.foldl_reverse] at hf
  refine ⟨⟨hf.1, fun a a0 a1 => (hf.2 a (full_in hlst.1 hlst.2.1 h5 a a0 a1)).1⟩, fun a b a0 b0 => ?_⟩
  by_cases a1 : a < n
  ·exact (hf.2 a (full_in hlst.1 hlst.2.1 h5 a a0 a1)).2 b b0
  ·constructor
   ·intro hx
    rw [mt_out (by
     have : rd_L7 (List.foldl (reach.step n u.2) (List.replicate n.toNat []) t.1.reverse) a = [] := by
      unfold rd_L7
      rw [List.getD_eq_getElem?_getD, List.getElem?_eq_none (by have := hf.1; omega)]; rfl
     rw [this]; simpa using b0)] at hx
    cases hx
   ·exact fun hx => absurd (hx.inn (rl_inn k4)).1.2 a1

def rowL (T : Int → Int → Bool) (a : Int) : Nat → Int → List S47
 | 0, _ => []
 | d + 1, b => (if T a b = true then [⟨a, b⟩] else []) ++ rowL T a d (b + 1)
def tabL (T : Int → Int → Bool) (n : Int) : Nat → Int → List S47
 | 0, _ => []
 | d + 1, a => rowL T a n.toNat 0 ++ tabL T n d (a + 1)
theorem rowL_len (T : Int → Int → Bool) (a : Int) (d : Nat) : ∀ b, (rowL T a d b).length ≤ d := by
 induction d with
 | zero => exact fun _ => Nat.le_refl _
 | succ d ih =>
  intro b
  have := ih (b + 1)
  unfold rowL
  rw [List.length_append]
  split <;> simp <;> omega
theorem mem_rowL {T : Int → Int → Bool} {a : Int} {p : S47} (d : Nat) : ∀ b, p ∈ rowL T a d b ↔ p.f0 = a ∧ (b ≤ p.f1 ∧ p.f1 < b + d) ∧ T p.f0 p.f1 = true := by
 induction d with
 | zero => intro b; unfold rowL; simp; omega
 | succ d ih =>
  intro b
  unfold rowL
  rw [List.mem_append, ih (b + 1)]
  have e : p ∈ (if T a b = true then [⟨a, b⟩] else [] : List S47) ↔ p = ⟨a, b⟩ ∧ T a b = true := by
   split
   ·rename_i h; simp [h]
   ·rename_i h; simp [h]
  rw [e]
  constructor
  ·rintro (⟨rfl, h⟩ | ⟨h1, h2, h3⟩)
   ·exact ⟨rfl, ⟨by simp, by simp; omega⟩, h⟩
   ·exact ⟨h1, ⟨by omega, by omega⟩, h3⟩
  ·rintro ⟨h1, h2, h3⟩
   by_cases c : p.f1 = b
   ·left
    subst h1 c
    exact ⟨rfl, h3⟩
   ·exact .inr ⟨h1, ⟨by omega, by omega⟩, h3⟩
theorem mem_tabL {T : Int → Int → Bool} {n : Int} {p : S47} (d : Nat) : ∀ a, p ∈ tabL T n d a ↔ (a ≤ p.f0 ∧ p.f0 < a + d) ∧ (0 ≤ p.f1 ∧ p.f1 < (n.toNat : Int)) ∧ T p.f0 p.f1 = true := by
 induction d with
 | zero => intro a; unfold tabL; simp; omega
 | succ d ih =>
  intro a
  unfold tabL
  rw [List.mem_append, ih (a + 1), mem_rowL]
  constructor
  ·rintro (⟨h1, h2, h3⟩ | ⟨h1, h2, h3⟩)
   ·exact ⟨by omega, by omega, h3⟩
   ·exact ⟨by omega, h2, h3⟩
  ·rintro ⟨h1, h2, h3⟩
   by_cases c : p.f0 = a
   ·exact .inl ⟨c, by omega, h3⟩
   ·exact .inr ⟨by omega, h2, h3⟩
theorem rowL_nodup (T : Int → Int → Bool) (a : Int) (d : Nat) : ∀ b, (rowL T a d b).Nodup := by
 induction d with
 | zero => exact fun _ => List.nodup_nil
 | succ d ih =>
  intro b
  unfold rowL
  split
  ·rw [List.singleton_append, List.nodup_cons]
   exact ⟨fun h => by have := (mem_rowL d (b + 1)).1 h; simp at this; omega, ih _⟩
  ·simpa using ih (b + 1)
theorem tabL_nodup (T : Int → Int → Bool) (n : Int) (d : Nat) : ∀ a, (tabL T n d a).Nodup := by
 induction d with
 | zero => exact fun _ => List.nodup_nil
 | succ d ih =>
  intro a
  unfold tabL
  rw [List.nodup_append]
  refine ⟨rowL_nodup _ _ _ _, ih _, fun x hx y hy e => ?_⟩
  subst e
  have h1 := (mem_rowL _ _).1 hx
  have h2 := (mem_tabL _ _).1 hy
  omega
theorem tabL_len (T : Int → Int → Bool) (n : Int) (d : Nat) : ∀ a, (tabL T n d a).length ≤ d * n.toNat := by
 induction d with
 | zero => exact fun _ => by simp [tabL]
 | succ d ih =>
  intro a
  unfold tabL
  rw [List.length_append, Nat.succ_mul]
  have h1 := ih (a + 1)
  have h2 := rowL_len T a n.toNat 0
  omega
end Go.Proofs.Ytbbkclcfmcjlgaa.B


namespace Go.Proofs.Ytbbkclcfmcjlgaa.B
open Go.RowKit Go.Proofs.Ytbbkclcfmcjlgaa.P Go.Proofs.Ytbbkclcfmcjlgaa.Gr Go.Proofs.YtbbkclcfmcjlgaaW.PrintWords Go.Proofs.YtbbkclcfmcjlgaaW.PrintLast Go.Proofs.YtbbkclcfmcjlgaaW.PrintMore
set_option linter.unusedVariables false
set_option linter.unusedSimpArgs false

theorem col_l1 {n : Int} (hn : 0 ≤ n ∧ n ≤ 200) (gf : Int → Int → Option Bool) (T : Int → Int → Bool) (a : Int) (a0 : 0 ≤ a) (a1 : a < n) (hg : ∀ b, 0 ≤ b → b < n → gf a b = some (T a b)) (r : List S47) (R : List S47) (hk : ∀ o : List S47, (o.length : Int) ≤ 200 * (a + 1) → Ev (fun k => col.l0 gf n k (a + 1) o) (o ++ R)) (d : Nat) : ∀ (b : Int) (o : List S47), 0 ≤ b → b + d = n → (o.length : Int) ≤ 200 * a + b → Ev (fun k => col.l1 gf n k a b o) (o ++ (rowL T a d b ++ R)) := by
 induction d with
 | zero =>
  intro b o b0 hb ho
  refine Ev.step (fun k => ?_) (hk o (by omega))
  simp only [col.l1]
  rw [if_neg (by omega), wrap_succ a a0 (by omega)]
  
 | succ d ih =>
  intro b o b0 hb ho
  have hw := wrap_succ b b0 (by omega)
  by_cases c : T a b = true
  ·have e : o ++ (rowL T a (d + 1) b ++ R) = (o ++ [⟨a, b⟩]) ++ (rowL T a d (b + 1) ++ R) := by
    simp [rowL, c]
   rw [e]
   refine Ev.step (fun k => ?_) (ih (b + 1) (o ++ [⟨a, b⟩]) (by omega) (by omega) (by rw [List.length_append, List.length_singleton]; omega))
   simp only [col.l1]
   rw [if_pos (by omega), hg b b0 (by omega), c, hw]
   simp only [Option.bind_some, if_true]
   rw [if_pos (by omega)]
  ·have e : o ++ (rowL T a (d + 1) b ++ R) = o ++ (rowL T a d (b + 1) ++ R) := by
    simp [rowL, c]
   rw [e]
   refine Ev.step (fun k => ?_) (ih (b + 1) o (by omega) (by omega) (by omega))
   simp only [col.l1]
   rw [if_pos (by omega), hg b b0 (by omega), show T a b = false by simpa using c, hw]
   simp
theorem col_l0 {n : Int} (hn : 0 ≤ n ∧ n ≤ 200) (gf : Int → Int → Option Bool) (T : Int → Int → Bool) (hg : ∀ a b, 0 ≤ a → a < n → 0 ≤ b → b < n → gf a b = some (T a b)) (d : Nat) : ∀ (a : Int) (o : List S47), 0 ≤ a → a + d = n → (o.length : Int) ≤ 200 * a → Ev (fun k => col.l0 gf n k a o) (o ++ tabL T n d a) := by
 induction d with
 | zero =>
  intro a o a0 ha ho
  refine ev_end (fun k => ?_)
  simp only [col.l0]
  rw [if_neg (by omega)]
  simp [tabL]
 | succ d ih =>
  intro a o a0 ha ho
  refine Ev.step (fun k => ?_) (col_l1 hn gf T a a0 (by omega) (fun b b0 b1 => hg a b a0 (by omega) b0 b1) o (tabL T n d (a + 1)) (fun o' ho' => ih (a + 1) o' (by omega) (by omega) ho') n.toNat 0 o (by omega) (by omega) (by omega))
  simp only [col.l0]
  rw [if_pos (by omega)]
theorem col_congr {n : Int} (hn : 0 ≤ n ∧ n ≤ 200) (gf gf' : Int → Int → Option Bool) (hg : ∀ a b, 0 ≤ a → a < n → 0 ≤ b → b < n → gf a b = gf' a b) : ∀ k, (∀ a o, 0 ≤ a → a ≤ n → col.l0 gf n k a o = col.l0 gf' n k a o) ∧ (∀ a b o, 0 ≤ a → a < n → 0 ≤ b → b ≤ n → col.l1 gf n k a b o = col.l1 gf' n k a b o) := by
 intro k
 induction k with
 | zero => exact ⟨fun _ _ _ _ => rfl, fun _ _ _ _ _ _ _ => rfl⟩
 | succ k ih =>
  refine ⟨fun a o a0 a1 => ?_, fun a b o a0 a1 b0 b1 => ?_⟩
  ·simp only [col.l0]
   by_cases c : a < n
   ·rw [if_pos c, if_pos c, ih.2 a 0 o a0 c (by omega) (by omega)]
   ·rw [if_neg c, if_neg c]
  ·simp only [col.l1]
   by_cases c : b < n
   ·rw [if_pos c, if_pos c, hg a b a0 a1 b0 c, wrap_succ b b0 (by omega), ih.2 a (b + 1) _ a0 a1 (by omega) (by omega), ih.2 a (b + 1) _ a0 a1 (by omega) (by omega)]
   ·rw [if_neg c, if_neg c, wrap_succ a a0 (by omega), ih.1 (a + 1) _ (by omega) (by omega)]
theorem at2_ev {n : Int} {R : Int → Int → Prop} {m : List (List Bool)} (h : Tab n R m) {a b : Int} (a0 : 0 ≤ a) (a1 : a < n) (b0 : 0 ≤ b) (b1 : b < n) : at2 m a b = some (mt m a b) := by
 unfold at2
 have h1 := h.1.1
 have h2 := h.1.2 a a0 a1
 rw [if_pos ⟨a0, by omega, b0, by omega⟩]
 rfl
open Classical in
noncomputable def dTc (R : Int → Int → Prop) (a b : Int) : Bool := decide (Tc R a b)
open Classical in
noncomputable def dRed (R : Int → Int → Prop) (a b : Int) : Bool := decide (Red R a b)
theorem dTc_iff (R : Int → Int → Prop) (a b : Int) : dTc R a b = true ↔ Tc R a b := by unfold dTc; simp
theorem dRed_iff (R : Int → Int → Prop) (a b : Int) : dRed R a b = true ↔ Red R a b := by unfold dRed; simp
theorem Tab.dTc {n : Int} {R : Int → Int → Prop} {m : List (List Bool)} (h : Tab n R m) {a b : Int} (a0 : 0 ≤ a) (b0 : 0 ≤ b) : mt m a b = B.dTc R a b := by
 rw [Bool.eq_iff_iff, h.2 a b a0 b0, dTc_iff]
theorem red_l0 {n : Int} (hn : 0 ≤ n ∧ n ≤ 200) {R : Int → Int → Prop} (hin : Inn R n) {m : List (List Bool)} (h : Tab n R m) {a b : Int} (a0 : 0 ≤ a) (a1 : a < n) (b0 : 0 ≤ b) (b1 : b < n) (hab : Tc R a b) (d : Nat) : ∀ (c : Int) (k : Nat), 0 ≤ c → c + d = n → d + 1 ≤ k → (∀ x, 0 ≤ x → x < c → ¬ (Tc R a x ∧ Tc R x b)) → red.l0 m n a b k c = some (dRed R a b) := by
 induction d with
 | zero =>
  intro c k c0 hc hk hno
  obtain ⟨k, rfl⟩ : ∃ k', k = k' + 1 := ⟨k - 1, by omega⟩
  simp only [red.l0]
  rw [if_neg (by omega)]
  congr 1
  symm
  rw [dRed_iff]
  refine ⟨hab, fun ⟨x, h1, h2⟩ => ?_⟩
  have := (h1.inn hin).2
  exact hno x this.1 (by omega) ⟨h1, h2⟩
 | succ d ih =>
  intro c k c0 hc hk hno
  obtain ⟨k, rfl⟩ : ∃ k', k = k' + 1 := ⟨k - 1, by omega⟩
  have hw := wrap_succ c c0 (by omega)
  simp only [red.l0]
  rw [if_pos (by omega), at2_ev h a0 a1 c0 (by omega), at2_ev h c0 (by omega) b0 b1, hw]
  simp only [Option.bind_some]
  have hnext : ¬ (Tc R a c ∧ Tc R c b) → red.l0 m n a b k (c + 1) = some (dRed R a b) := fun hx => ih (c + 1) k (by omega) (by omega) (by omega) (fun x x0 x1 => by
   by_cases e : x = c
   ·subst e; exact hx
   ·exact hno x x0 (by omega))
  by_cases c1 : mt m a c = true
  ·rw [if_pos c1]
   by_cases c2 : mt m c b = true
   ·rw [if_pos c2]
    congr 1
    symm
    have hr : ¬ dRed R a b = true := by
     rw [dRed_iff]
     exact fun hr => hr.2 ⟨c, (h.2 a c a0 c0).1 c1, (h.2 c b c0 b0).1 c2⟩
    simpa using hr
   ·rw [if_neg c2]
    exact hnext (fun hx => c2 ((h.2 c b c0 b0).2 hx.2))
  ·rw [if_neg c1]
   exact hnext (fun hx => c1 ((h.2 a c a0 c0).2 hx.1))
theorem red_ev {n : Int} (hn : 0 ≤ n ∧ n ≤ 200) {R : Int → Int → Prop} (hin : Inn R n) {m : List (List Bool)} (h : Tab n R m) {a b : Int} (a0 : 0 ≤ a) (a1 : a < n) (b0 : 0 ≤ b) (b1 : b < n) (k : Nat) (hk : 201 ≤ k) : red.f k m n a b = some (dRed R a b) := by
 unfold red.f
 rw [at2_ev h a0 a1 b0 b1]
 simp only [Option.bind_some]
 by_cases c : mt m a b = true
 ·rw [if_pos c]
  exact red_l0 hn hin h a0 a1 b0 b1 ((h.2 a b a0 b0).1 c) n.toNat 0 k (by omega) (by omega) (by omega) (fun x x0 x1 => by omega)
 ·rw [if_neg c]
  congr 1
  symm
  have hr : ¬ dRed R a b = true := by
   rw [dRed_iff]
   exact fun hr => c ((h.2 a b a0 b0).2 hr.1)
  simpa using hr
def LsOk (n : Int) (l : List S47) (T : Int → Int → Bool) (t : List S47 × Int) : Prop :=
 (vErr n l ≠ 0 ∧ t = ([], vErr n l)) ∨ (vErr n l = 0 ∧ ¬ Acyc (Rl l) ∧ t = ([], 12)) ∨ (vErr n l = 0 ∧ Acyc (Rl l) ∧ t = (tabL T n n.toNat 0, 0))
theorem LsOk.len {n : Int} {l : List S47} {T : Int → Int → Bool} {t : List S47 × Int} (ht : LsOk n l T t) : t.1.length ≤ 40000 := by
 rcases ht with ⟨h1, rfl⟩ | ⟨h1, h2, rfl⟩ | ⟨h1, h2, rfl⟩
 ·simp
 ·simp
 ·have h3 := tabL_len T n n.toNat 0
  have h4 := vErr_zero h1
  have h5 : n.toNat * n.toNat ≤ 200 * 200 := Nat.mul_le_mul (by omega) (by omega)
  show (tabL T n n.toNat 0).length ≤ 40000
  omega
theorem closure_ev (n : Int) (l : List S47) (hl : l.length ≤ 100000000000000) : EvP (fun f => precedence_Closure.f f n l) (LsOk n l (dTc (Rl l))) := by
 unfold precedence_Closure.f
 refine EvP.bindP (reach_ev n l hl) (fun t ht => ?_)
 rcases ht with ⟨h1, rfl⟩ | ⟨h1, h2, rfl⟩ | ⟨h1, h2, h3, h4⟩
 ·simp only [if_neg h1]
  exact ⟨_, Ev.now _, .inl ⟨h1, rfl⟩⟩
 ·simp only [if_neg (show ¬ (12 : Int) = 0 by decide)]
  exact ⟨_, Ev.now _, .inr (.inl ⟨h1, h2, rfl⟩)⟩
 ·simp only [if_pos h3]
  obtain ⟨k1, k2, k3, k4⟩ := vErr_zero h1
  refine EvP.bind (col_l0 ⟨k1, k2⟩ (at2 t.1) (dTc (Rl l)) (fun a b a0 a1 b0 b1 => by rw [at2_ev h4 a0 a1 b0 b1, h4.dTc a0 b0]) n.toNat 0 [] (by omega) (by omega) (by simp)) ⟨_, Ev.now _, .inr (.inr ⟨h1, h2, by simp⟩)⟩
theorem reduce_ev (n : Int) (l : List S47) (hl : l.length ≤ 100000000000000) : EvP (fun f => precedence_Reduce.f f n l) (LsOk n l (dRed (Rl l))) := by
 unfold precedence_Reduce.f
 refine EvP.bindP (reach_ev n l hl) (fun t ht => ?_)
 rcases ht with ⟨h1, rfl⟩ | ⟨h1, h2, rfl⟩ | ⟨h1, h2, h3, h4⟩
 ·simp only [if_neg h1]
  exact ⟨_, Ev.now _, .inl ⟨h1, rfl⟩⟩
 ·simp only [if_neg (show ¬ (12 : Int) = 0 by decide)]
  exact ⟨_, Ev.now _, .inr (.inl ⟨h1, h2, rfl⟩)⟩
 ·simp only [if_pos h3]
  obtain ⟨k1, k2, k3, k4⟩ := vErr_zero h1
  have hin := rl_inn k4
  have hev : Ev (fun f => col.l0 (red.f f t.1 n) n f 0 []) ([] ++ tabL (dRed (Rl l)) n n.toNat 0) := by
   obtain ⟨K, hK⟩ := col_l0 ⟨k1, k2⟩ (fun a b => some (dRed (Rl l) a b)) (dRed (Rl l)) (fun a b _ _ _ _ => rfl) n.toNat 0 [] (by omega) (by omega) (by simp)
   refine ⟨max K 201, fun f hf => ?_⟩
   show col.l0 (red.f f t.1 n) n f 0 [] = _
   rw [(col_congr ⟨k1, k2⟩ (red.f f t.1 n) (fun a b => some (dRed (Rl l) a b)) (fun a b a0 a1 b0 b1 => red_ev ⟨k1, k2⟩ hin h4 a0 a1 b0 b1 f (by omega)) f).1 0 [] (by omega) (by omega)]
   exact hK f (by omega)
  refine EvP.bind hev ⟨_, Ev.now _, .inr (.inr ⟨h1, h2, by simp⟩)⟩

theorem tab_in {T : Int → Int → Bool} {n : Int} (hn : 0 ≤ n) {p : S47} : p ∈ tabL T n n.toNat 0 ↔ ((0 ≤ p.f0 ∧ p.f0 < n) ∧ (0 ≤ p.f1 ∧ p.f1 < n)) ∧ T p.f0 p.f1 = true := by
 rw [mem_tabL]
 constructor
 ·rintro ⟨h1, h2, h3⟩; exact ⟨⟨by omega, by omega⟩, h3⟩
 ·rintro ⟨⟨h1, h2⟩, h3⟩; exact ⟨by omega, by omega, h3⟩
end Go.Proofs.Ytbbkclcfmcjlgaa.B



namespace Go.Proofs.Ytbbkclcfmcjlgaa.B
open Go.RowKit Go.Proofs.Ytbbkclcfmcjlgaa.P Go.Proofs.Ytbbkclcfmcjlgaa.Gr Go.Proofs.YtbbkclcfmcjlgaaW.PrintWords Go.Proofs.YtbbkclcfmcjlgaaW.PrintLast Go.Proofs.YtbbkclcfmcjlgaaW.PrintMore
set_option linter.unusedVariables false
set_option linter.unusedSimpArgs false
theorem vErr_of {n : Int} {l : List S47} (h0 : 0 ≤ n) (h1 : n ≤ 200) (h2 : l.length ≤ 2000) (h3 : ∀ p ∈ l, okp n p = true) : vErr n l = 0 := by
 unfold vErr
 rw [if_neg (by omega), if_neg (by omega), if_pos (List.all_eq_true.2 h3)]
theorem len_sub (a : List S47) : ∀ b : List S47, a.Nodup → (∀ x ∈ a, x ∈ b) → a.length ≤ b.length := by
 induction a with
 | nil => exact fun b _ _ => Nat.zero_le _
 | cons x a ih =>
  intro b hd h
  rw [List.nodup_cons] at hd
  have hx := h x List.mem_cons_self
  have := ih (b.erase x) hd.2 (fun y hy => (List.mem_erase_of_ne (fun (e : y = x) => hd.1 (by rw [e] at hy; exact hy))).2 (h y (List.mem_cons_of_mem _ hy)))
  rw [List.length_erase_of_mem hx] at this
  have := List.length_pos_of_mem hx
  simp only [List.length_cons]
  omega
theorem tab_less {n : Int} (hn : 0 ≤ n) {T T' : Int → Int → Bool} (h : ∀ x y, T' x y = true → T x y = true) {p : S47} (hp : p ∈ tabL T n n.toNat 0) (hq : ¬ T' p.f0 p.f1 = true) : (tabL T' n n.toNat 0).length < (tabL T n n.toNat 0).length := by
 have hsub : (p :: tabL T' n n.toNat 0).Nodup := List.nodup_cons.2 ⟨fun hx => hq ((tab_in hn).1 hx).2, tabL_nodup _ _ _ _⟩
 have := len_sub _ (tabL T n n.toNat 0) hsub (fun x hx => by
  rcases List.mem_cons.1 hx with rfl | hx
  ·exact hp
  ·have h1 := (tab_in hn).1 hx
   exact (tab_in hn).2 ⟨h1.1, h _ _ h1.2⟩)
 simp only [List.length_cons] at this
 omega
theorem tc_red_eq {n : Int} {l : List S47} (hok : ∀ p ∈ l, okp n p = true) (ha : Acyc (Rl l)) : dTc (Red (Rl l)) = dTc (Rl l) := by
 funext x y
 rw [Bool.eq_iff_iff, dTc_iff, dTc_iff]
 exact ⟨tc_red, red_tc (rl_inn hok) ha⟩
theorem rl_tab {n : Int} (hn : 0 ≤ n) {T : Int → Int → Bool} (x y : Int) : Rl (tabL T n n.toNat 0) x y ↔ ((0 ≤ x ∧ x < n) ∧ (0 ≤ y ∧ y < n)) ∧ T x y = true := tab_in hn
theorem rl_red {n : Int} {l : List S47} (hz : vErr n l = 0) : Rl (tabL (dRed (Rl l)) n n.toNat 0) = Red (Rl l) := by
 obtain ⟨k1, k2, k3, k4⟩ := vErr_zero hz
 funext x y
 apply propext
 rw [rl_tab k1, dRed_iff]
 exact ⟨fun h => h.2, fun h => ⟨h.1.inn (rl_inn k4), h⟩⟩
theorem redu_j2 {n x2 : Int} (hx2 : 0 ≤ x2 ∧ x2 ≤ 255) {l : List S47} (hz : vErr n l = 0) (hn : n ≤ 12) (ha : Acyc (Rl l)) : EvP (fun k => swarflaw29_PrecedenceReduced.j2 k n x2 (tabL (dRed (Rl l)) n n.toNat 0) (tabL (dTc (Rl l)) n n.toNat 0) false) (fun r => r = true) := by
 obtain ⟨k1, k2, k3, k4⟩ := vErr_zero hz
 have hin := rl_inn k4
 have hrl := rl_red hz
 have hlen : (tabL (dRed (Rl l)) n n.toNat 0).length ≤ 144 := Nat.le_trans (tabL_len _ _ _ _) (Nat.mul_le_mul (by omega) (by omega) : n.toNat * n.toNat ≤ 12 * 12)
 have hnd := tabL_nodup (dRed (Rl l)) n n.toNat 0
 have hmem : ∀ p ∈ tabL (dRed (Rl l)) n n.toNat 0, p ∈ tabL (dTc (Rl l)) n n.toNat 0 := fun p hp => by
  have h1 := (tab_in k1).1 hp
  exact (tab_in k1).2 ⟨h1.1, (dTc_iff _ _ _).2 ((dRed_iff _ _ _).1 h1.2).1⟩
 by_cases z : ((tabL (dRed (Rl l)) n n.toNat 0).length : Int) = 0
 ·refine EvP.stop true (fun k => ?_) rfl
  simp only [swarflaw29_PrecedenceReduced.j2]
  rw [if_neg (by decide), if_pos z]
  have he : tabL (dTc (Rl l)) n n.toNat 0 = [] := by
   by_cases e : tabL (dTc (Rl l)) n n.toNat 0 = []
   ·exact e
   ·exfalso
    obtain ⟨p, hp⟩ := List.exists_mem_of_ne_nil _ e
    have h1 := (dTc_iff _ _ _).1 ((tab_in k1).1 hp).2
    obtain ⟨c, hc, _⟩ := (red_tc hin ha h1).head
    have h2 : (⟨p.f0, c⟩ : S47) ∈ tabL (dRed (Rl l)) n n.toNat 0 := by
     have : Rl (tabL (dRed (Rl l)) n n.toNat 0) p.f0 c := by rw [hrl]; exact hc
     exact this
    have := List.length_pos_of_mem h2
    omega
  rw [he]
  rfl
 ·have hw : wrap64 x2 = x2 := wrap_mid _ (by omega) (by omega)
  generalize hr : tabL (dRed (Rl l)) n n.toNat 0 = r at *
  obtain ⟨t, ht⟩ : ∃ t : Int, t = Int.tmod x2 (r.length : Int) := ⟨_, rfl⟩
  have htm : t = x2 % (r.length : Int) := by rw [ht]; exact Int.tmod_eq_emod_of_nonneg hx2.1
  have t0 : 0 ≤ t := by rw [htm]; exact Int.emod_nonneg _ z
  have t1 : t < (r.length : Int) := by rw [htm]; exact Int.emod_lt_of_pos _ (by omega)
  have hw2 := wrap_succ t t0 (by omega)
  have hdrop := drop_T47 r t t0 t1
  have hpm := T47_mem r t t0 t1
  generalize hp : rd_T47 r t = p at hdrop hpm
  have hsplit : r = r.take t.toNat ++ p :: r.drop (t + 1).toNat := by rw [← hdrop, List.take_append_drop]
  have hsub : ∀ x, x ∈ r.take t.toNat ++ r.drop (t + 1).toNat → x ∈ r ∧ x ≠ p := fun x hx => by
   have h1 : x ∈ r := by
    rcases List.mem_append.1 hx with hx | hx
    ·exact List.mem_of_mem_take hx
    ·exact List.mem_of_mem_drop hx
   refine ⟨h1, fun e => ?_⟩
   subst e
   rw [hsplit, List.nodup_append] at hnd
   rcases List.mem_append.1 hx with hx | hx
   ·exact hnd.2.2 x hx x List.mem_cons_self rfl
   ·exact (List.nodup_cons.1 hnd.2.1).1 hx
  have hlen2 : (r.take t.toNat ++ r.drop (t + 1).toNat).length ≤ 144 := by
   rw [List.length_append, List.length_take, List.length_drop]; omega
  have hred : Red (Rl l) p.f0 p.f1 := by
   have : Rl r p.f0 p.f1 := hpm
   rw [hrl] at this
   exact this
  have hrl' : ∀ x y, Rl (r.take t.toNat ++ r.drop (t + 1).toNat) x y → Red (Rl l) x y ∧ ¬ (x = p.f0 ∧ y = p.f1) := fun x y hxy => by
   have h1 := hsub _ hxy
   refine ⟨?_, fun e => h1.2 ?_⟩
   ·have : Rl r x y := h1.1
    rw [hrl] at this
    exact this
   ·rw [e.1, e.2]
  have hok' : ∀ q ∈ r.take t.toNat ++ r.drop (t + 1).toNat, okp n q = true := fun q hq => by
   have h1 := hrl' q.f0 q.f1 hq
   have h2 := h1.1.1.inn hin
   rw [okp_iff]
   exact ⟨fun e => ha q.f0 (by have := h1.1.1; rw [← e] at this; exact this), h2⟩
  have hz' := vErr_of k1 k2 (by omega) hok'
  have htc : ∀ x y, Tc (Rl (r.take t.toNat ++ r.drop (t + 1).toNat)) x y → Tc (Rl l) x y := fun x y h => tc_red (h.mono (fun a b hab => (hrl' a b hab).1))
  have ha' : Acyc (Rl (r.take t.toNat ++ r.drop (t + 1).toNat)) := fun a h => ha a (htc a a h)
  refine EvP.step (f := fun k => (precedence_Closure.f k n (r.take t.toNat ++ r.drop (t + 1).toNat)).bind fun bt235 => (if bt235.2 = 0 then (some (decide ((bt235.1.length : Int) < ((tabL (dTc (Rl l)) n n.toNat 0).length : Int)))) else (some false))) (fun k => ?_) ?_
  ·simp only [swarflaw29_PrecedenceReduced.j2]
   rw [if_neg (by decide), if_neg z, hw, ← ht, if_pos t0, if_pos (by omega), cp_eq _ (by rw [List.length_take]; omega), hw2]
   simp only [Option.bind_some]
   rw [if_pos (by omega), if_pos (by omega), if_pos (by rw [List.length_append] at hlen2; omega)]
  ·refine EvP.bindP (closure_ev n _ (by omega)) (fun u hu => ?_)
   rcases hu with ⟨h1, _⟩ | ⟨_, h2, _⟩ | ⟨_, _, rfl⟩
   ·exact absurd hz' h1
   ·exact absurd ha' h2
   ·simp only [if_true]
    refine ⟨_, Ev.now _, ?_⟩
    have := tab_less k1 (T := dTc (Rl l)) (T' := dTc (Rl (r.take t.toNat ++ r.drop (t + 1).toNat))) (fun x y h => (dTc_iff _ _ _).2 (htc x y ((dTc_iff _ _ _).1 h))) (hmem p hpm) (fun h => red_less hred _ hrl' ((dTc_iff _ _ _).1 h))
    rw [decide_eq_true (by omega)]
theorem redu_j0 (n : Int) (l : List S47) (x2 : Int) (hx2 : 0 ≤ x2 ∧ x2 ≤ 255) (b : Bool) (h : b = false → l.length ≤ 60 ∧ (vErr n l = 0 → n ≤ 12)) : EvP (fun k => swarflaw29_PrecedenceReduced.j0 k n l x2 b) (fun r => r = true) := by
 cases b with
 | true =>
  refine EvP.step (f := fun k => (swarflaw29_awake.f k).bind fun t => some t) (fun k => ?_) (EvP.bind awake_ev ⟨true, Ev.now _, rfl⟩)
  simp only [swarflaw29_PrecedenceReduced.j0]
  rw [if_pos trivial]
 | false =>
  obtain ⟨hl, hn12⟩ := h rfl
  refine EvP.step (f := fun k => (precedence_Reduce.f k n l).bind fun bt202 => ((precedence_Closure.f k n l).bind fun bt209 => (if bt202.2 = 0 then (swarflaw29_PrecedenceReduced.j1 k n x2 bt202.1 bt202.2 bt209.1 bt209.2 (bt209.2 != 0)) else (swarflaw29_PrecedenceReduced.j1 k n x2 bt202.1 bt202.2 bt209.1 bt209.2 true)))) (fun k => ?_) ?_
  ·simp only [swarflaw29_PrecedenceReduced.j0]
   rw [if_neg (by decide), cp_eq l (by omega)]
   rfl
  ·refine EvP.bindP (reduce_ev n l (by omega)) (fun t ht => EvP.bindP (closure_ev n l (by omega)) (fun u hu => ?_))
   have hbad : ∀ (a c : List S47) (e : Int), EvP (fun k => swarflaw29_PrecedenceReduced.j1 k n x2 a e c e true) (fun r => r = true) := fun a c e => by
    refine EvP.stop true (fun k => ?_) rfl
    simp only [swarflaw29_PrecedenceReduced.j1]
    rw [if_pos trivial]
    simp
   rcases ht with ⟨h1, rfl⟩ | ⟨h1, h2, rfl⟩ | ⟨h1, h2, rfl⟩ <;> rcases hu with ⟨j1, rfl⟩ | ⟨j1, j2, rfl⟩ | ⟨j1, j2, rfl⟩
   ·simp only [if_neg h1]
    exact hbad _ _ _
   ·exact absurd j1 h1
   ·exact absurd j1 h1
   ·exact absurd h1 j1
   ·simp only [if_neg (show ¬ (12 : Int) = 0 by decide)]
    exact hbad _ _ _
   ·exact absurd j2 h2
   ·exact absurd h1 j1
   ·exact absurd h2 j2
   ·simp only [if_true]
    have hn := hn12 h1
    obtain ⟨k1, k2, k3, k4⟩ := vErr_zero h1
    have hrl := rl_red h1
    have hlen : (tabL (dRed (Rl l)) n n.toNat 0).length ≤ 144 := Nat.le_trans (tabL_len _ _ _ _) (Nat.mul_le_mul (by omega) (by omega) : n.toNat * n.toNat ≤ 12 * 12)
    have hz' : vErr n (tabL (dRed (Rl l)) n n.toNat 0) = 0 := vErr_of k1 k2 (by omega) (fun q hq => by
     have h3 := (tab_in k1).1 hq
     have h4 := (dRed_iff _ _ _).1 h3.2
     rw [okp_iff]
     exact ⟨fun e => h2 q.f0 (by have := h4.1; rw [← e] at this; exact this), h3.1⟩)
    refine EvP.step (f := fun k => (precedence_Closure.f k n (tabL (dRed (Rl l)) n n.toNat 0)).bind fun bt216 => (if bt216.2 = 0 then ((swarfref29_Pairs.f k bt216.1 (tabL (dTc (Rl l)) n n.toNat 0)).bind fun t220 => (swarflaw29_PrecedenceReduced.j2 k n x2 (tabL (dRed (Rl l)) n n.toNat 0) (tabL (dTc (Rl l)) n n.toNat 0) (!t220))) else (swarflaw29_PrecedenceReduced.j2 k n x2 (tabL (dRed (Rl l)) n n.toNat 0) (tabL (dTc (Rl l)) n n.toNat 0) true))) (fun k => ?_) ?_
    ·simp only [swarflaw29_PrecedenceReduced.j1]
     rw [if_neg (by decide), cp_eq _ (by omega)]
     rfl
    ·refine EvP.bindP (closure_ev n _ (by omega)) (fun u hu => ?_)
     rcases hu with ⟨h3, _⟩ | ⟨_, h3, _⟩ | ⟨_, _, rfl⟩
     ·exact absurd hz' h3
     ·exact absurd (fun a h => h2 a (tc_red (by rw [hrl] at h; exact h))) h3
     ·simp only [if_true]
      rw [hrl, tc_red_eq k4 h2]
      refine EvP.bind (pairs_ev _ _ (Nat.le_trans (tabL_len _ _ _ _) (Nat.le_trans (Nat.mul_le_mul (by omega) (by omega) : n.toNat * n.toNat ≤ 12 * 12) (by omega)))) ?_
      rw [decide_eq_true rfl]
      exact redu_j2 hx2 h1 hn h2
theorem PrecedenceReduced (n : Int) (l : List S47) (x2 : Int) (hx2 : 0 ≤ x2 ∧ x2 ≤ 255) : ∃ k, swarflaw29_PrecedenceReduced.f k n l x2 = some true := by
 have hev : ∀ {g : Nat → Option Bool}, EvP g (fun r => r = true) → Ev g true := fun h => by
  obtain ⟨r, h1, rfl⟩ := h
  exact h1
 refine Ev.rounds (g := fun k => swarflaw29_PrecedenceReduced.f k n l x2) (hev ?_)
 unfold swarflaw29_PrecedenceReduced.f
 refine EvP.bind awake_ev ?_
 simp only [if_true]
 refine EvP.bind (few_ev n 12 l) ?_
 refine redu_j0 n l x2 hx2 _ (fun h => ?_)
 have h2 : fewB n 12 l = true := by simpa using h
 unfold fewB at h2
 by_cases c : (l.length : Int) ≤ 60
 ·refine ⟨by omega, fun hz => ?_⟩
  rw [if_pos c, hz] at h2
  by_cases c2 : n ≤ 12
  ·exact c2
  ·rw [if_neg c2] at h2; cases h2
 ·rw [if_neg c] at h2; cases h2
end Go.Proofs.Ytbbkclcfmcjlgaa.B
