import Derived.Test.YtbbkclcfmcjlgaaT5M30
import Derived.Test.YtbbkclcfmcjlgaaT5M21
import Derived.Test.YtbbkclcfmcjlgaaT5M29
import Derived.Test.YtbbkclcfmcjlgaaT5M26
/- The contract of precedence.Linear (function 18), by hand: a slice in a captured variable is written. -/

namespace Go.Proofs.Ytbbkclcfmcjlgaa.P
open Go.RowKit Go.Proofs.YtbbkclcfmcjlgaaW.PrintWords Go.Proofs.YtbbkclcfmcjlgaaW.PrintLast Go.Proofs.YtbbkclcfmcjlgaaW.PrintMore
set_option linter.unusedVariables false
set_option linter.unusedSimpArgs false

def gfL (m : List Int) (x y : Int) : Option Bool := if 0 ≤ x ∧ x < m.length ∧ 0 ≤ y ∧ y < m.length then some (decide (rd m x > rd m y)) else none
def lin.l0 (n : Int) (l : List S47) (o : List Int) : Nat → Int → List Int → Option Bool
 | 0, _, _ => none
 | k + 1, i, m => if i < (o.length : Int) then (if 0 ≤ i then (if rd o i < 0 then some false else if rd o i ≥ n then some false else if rd o i < (m.length : Int) then (if rd m (rd o i) > 0 then some false else lin.l0 n l o k (wrap64 (i + 1)) (m.set (rd o i).toNat (wrap64 (i + 1)))) else none) else none) else (idx.l0 (gfL m) l k 0).bind fun r => some (!(decide (r ≥ 0)))
def precedence_Linear.f (k : Nat) (n : Int) (l : List S47) (o : List Int) : Option Bool := (precedence_Valid.f k n l).bind fun e => if e = 0 then (if (o.length : Int) = n then (if 0 ≤ n then (if n.toNat ≤ 35184372088832 then lin.l0 n l o k 0 (List.replicate n.toNat 0) else none) else none) else some false) else some false
set_option maxHeartbeats 8000000 in
set_option maxRecDepth 100000 in
theorem precedence_Linear.calls (k : Nat) (n : Int) (A1 : Option Addr) (c1 : Nat) (l : List S47) (A2 : Option Addr) (c2 : Nat) (o : List Int) (r : Bool) (w : World) (hr1 : Kd.C k47 w A1 l.length l) (hc1 : l.length ≤ c1) (hr2 : Kd.C (Kd.int .i64) w A2 o.length o) (hc2 : o.length ≤ c2) (h : precedence_Linear.f k n l o = some r) :
  Calls Try.prog 18 #[.int .i64 n, .slice A1 l.length c1, .slice A2 o.length c2] w fun e w' => e = .returned (.bool r) ∧ Below w.heap.size w w' := by
 have HR1 := Aside0.mk hr1
 have HC1 := Aside0.mk hc1
 have HR2 := Aside0.mk hr2
 have HC2 := Aside0.mk hc2
 clear hr1 hc1 hr2 hc2
 unfold precedence_Linear.f at h
 obtain ⟨e, he, H⟩ := Option.bind_eq_some_iff.mp h
 have HE := Aside0.mk he
 clear h he
 have HB := Aside0.mk (Below.refl w.heap.size w)
 by_cases z : e = 0
 ·rw [if_pos z] at H; subst z
  by_cases z1 : (o.length : Int) = n
  ·rw [if_pos z1] at H
   have z1b : ((o.length : Int) != n) = false := bne_eq_false_iff_eq.mpr z1
   have z1c : ((o.length : Int) == n) = true := beq_iff_eq.mpr z1
   by_cases z2 : 0 ≤ n
   ·rw [if_pos z2] at H
    by_cases z3 : n.toNat ≤ 35184372088832
    ·rw [if_pos z3] at H
     obtain ⟨y, hy⟩ : ∃ y : List Int, y = List.replicate n.toNat 0 := ⟨_, rfl⟩
     rw [← hy] at H; have NY := Aside0.mk hy; clear hy; have H' := Aside0.mk H; have Z2 := Aside0.mk z2; have Z3 := Aside0.mk z3
     have z2' := eq_true z2
     clear H z1 z2 z3
     go_enter Try.func18, Try.ntmps18
     go_wp2_with (first | (go_at_call 20; go_must ((with_reducible refine (precedence_Valid.calls k n _ _ l 0 _ ?s1 ?s2 HE.out).mono ?_); (case s1 => exact HR1.out); (case s2 => exact HC1.out); rintro e w8 ⟨rfl, hb⟩; have n_ := Aside0.mk hb; clear HB hb; have HB := n_; clear n_)) | ((with_reducible refine gate_dst (N := 21) rfl ?_); go_must (refine Kd.R_make (Kd.int .i64) _ 3 rfl (N := 21) rfl 31 _ _ rfl n rfl rfl Try.underlying31 (.int .i64 0) 8 info3 rfl (by decide) (by omega) 0 (ok := fun _ => True) (okp := fun _ => True) rfl (fun _ hk => hk) trivial Z2.out (Nat.le_trans (Nat.mul_le_mul_right _ Z3.out) (by omega)) (Below.refl _ _) (Nat.le_refl _) ?_; intro va w9 ho hb hg_ hnew_; clear hg_ hnew_; rw [← NY.out] at ho; have n0_ := Aside0.mk (Kd.R_lower ho (below_size (HB.out))); have n1_ := Aside0.mk (below_step HB.out hb); clear HB ho hb; have HO := n0_; have HB := n1_; clear n0_ n1_)) | ((with_reducible refine gate_dst (N := 7) rfl ?_); go_must (refine box_event ?hg (N := 7) ?hd (cs := #[.slice none 0 0]) (t := 31) ?hr ?_; (case hd => rfl); (case hg => rfl); (case hr => first | (go_simp; done) | (go_simp; rfl)); intro g hg w10 hbox hb; have n0_ := Aside0.mk (Kd.R_types (Kd.R_below HO.out hb) hbox (by decide)); have n1_ := Aside0.mk (below_step HB.out hb); have GB := Aside0.mk (by rw [hg]; exact below_size HB.out : w.heap.size ≤ g); have BK := Aside0.mk hbox; have hfz := blk_frozen hbox 0; have hzz : w10.cell? ⟨g, 0, none⟩ = some (.slice none 0 0) := (blk_cell hbox 0).trans rfl; clear HO HB hb hbox hg; have HO := n0_; have HB := n1_; clear n0_ n1_; obtain ⟨Av, cv, ev⟩ := Kd.R_slice HO.out; subst ev)))
     go_loopg [24] k (fun kq v24 w' => ∃ (i : Int) (m : List Int), v24 = .int .i64 i ∧ Aside0 (lin.l0 n l o kq i m = some r) ∧ Aside0 (kq ≤ k) ∧ Aside0 (Kd.R (Kd.int .i64) 3 w' w.heap.size (fun k_ => True ∧ k_ ≠ g) (.slice Av y.length cv) m) ∧ Aside0 (w'.heap[g]? = some (.cells #[.slice Av y.length cv] 31 (0, 0))) ∧ Aside0 (Below w.heap.size w w'))
     case atStart => exact ⟨0, y, rfl, H', ⟨Nat.le_refl _⟩, ⟨Kd.R_far (p := ⟨g, 0, none⟩) HO.out (fun _ hk => hk.2) _⟩, ⟨blk_put (cs := #[.slice none 0 0]) BK.out 0 _ rfl⟩, ⟨below_set HB.out GB.out⟩⟩
     case round =>
      clear H' HO BK HB hfz hzz
      obtain ⟨i, m, rfl, HA, HK1, HO, BK, HB⟩ := hrel
      cases gk with
      | zero => exact absurd HA.out (by simp [lin.l0])
      | succ k1 =>
       have H := HA.out
       clear HA
       simp only [lin.l0] at H
       have hcz : wr.cell? ⟨g, 0, none⟩ = some (.slice Av y.length cv) := (blk_cell BK.out 0).trans rfl
       by_cases q1 : i < (o.length : Int)
       ·rw [if_pos q1] at H
        by_cases q2 : 0 ≤ i
        ·rw [if_pos q2] at H
         obtain ⟨ad, e, hx⟩ := Kd.at_int HR2.out i q2 q1
         cases e
         replace hx := (HB.out.cell (World.block_lt_of_cell? w _ hx)).trans hx
         generalize rd o i = v at H hx
         have q1b := decide_eq_true q1
         have q1' := eq_true q1
         have q2' := eq_true q2
         clear q1 q2
         by_cases r1 : v < 0
         ·rw [if_pos r1] at H; obtain rfl := Option.some.inj H
          have r1b := decide_eq_true r1
          clear r1; go_wp2; go_ret
          exact ⟨rfl, (by repeat (first | (with_reducible first | exact HB.out | apply below_alloc | apply pw_below_drewN | apply below_drew1) | exact HB.out))⟩
         ·rw [if_neg r1] at H
          have r1b := decide_eq_false r1
          have r1c := eq_true (show 0 ≤ v by omega)
          by_cases r2 : v ≥ n
          ·rw [if_pos r2] at H; obtain rfl := Option.some.inj H
           have r2b := decide_eq_true r2
           have r2c : decide (n ≤ v) = true := decide_eq_true r2
           clear r1 r2; go_wp2; go_ret
           exact ⟨rfl, (by repeat (first | (with_reducible first | exact HB.out | apply below_alloc | apply pw_below_drewN | apply below_drew1) | exact HB.out))⟩
          ·rw [if_neg r2] at H
           have r2b := decide_eq_false r2
           have r2c : decide (n ≤ v) = false := decide_eq_false r2
           by_cases r3 : v < (m.length : Int)
           ·rw [if_pos r3] at H
            obtain ⟨hl1, hl2, hl3⟩ := Kd.R_reads' HO.out
            have r3' : v < (y.length : Int) := by omega
            have v0 : 0 ≤ v := by omega
            obtain ⟨go, co, eo, gb, gl, cl, HG⟩ := Kd.R_form HO.out (by omega)
            injection eo with e1 e2 e3
            subst e1; subst e3
            obtain ⟨hm0, hf⟩ := Kd.R_celln 0 HO.out v v0 r3'
            have hm : wr.cell? ⟨go, v.toNat, none⟩ = some (.int .i64 (rd m v)) := hm0
            clear hm0
            have HP := Kd.R_putg HO.out v (wrap64 (i + 1))
            have hgo := HO.out.1 _ rfl
            have GO := Aside0.mk gb
            have v1' := eq_true r3'
            clear r1 r2 r3 r3' v0 e2 hl1 hl2 hl3 gb gl HG
            by_cases r4 : rd m v > 0
            ·rw [if_pos r4] at H; obtain rfl := Option.some.inj H
             have r4b := decide_eq_true r4
             have r4c : decide (0 < rd m v) = true := decide_eq_true r4
             clear r4 HP; go_wp2; go_ret
             exact ⟨rfl, (by repeat (first | (with_reducible first | exact HB.out | apply below_alloc | apply pw_below_drewN | apply below_drew1) | exact HB.out))⟩
            ·rw [if_neg r4] at H
             have r4b := decide_eq_false r4
             have r4c : decide (0 < rd m v) = false := decide_eq_false r4
             have H' := Aside0.mk H; clear H r4
             go_wp2_with ((with_reducible refine gate_store (t := 3) (p := 47) rfl ?_); go_must (refine store_event (t := 3) (p := 47) (v := ?vo_) (w1 := (wr.setCell ⟨go, v.toNat, none⟩ (.int .i64 (wrap64 (i + 1))))) ?hg ?ho ?hn ?hr ?_; (case ho => rfl); (case hg => rfl); (case hn => rfl); (case hr => first | (go_simp; done) | (go_simp; rfl)); intro w45 hw; have n0_ := Aside0.mk (show Kd.R (Kd.int .i64) 3 w45 w.heap.size (fun k_ => True ∧ k_ ≠ g) (.slice (some ⟨go, 0, none⟩) y.length cv) (m.set v.toNat (wrap64 (i + 1))) from (by rw [hw]; exact HP.1)); have n1_ := Aside0.mk (show w45.heap[g]? = some (.cells #[.slice (some ⟨go, 0, none⟩) y.length cv] 31 (0, 0)) from (by rw [hw]; exact blk_far (p := ⟨go, v.toNat, none⟩) BK.out (fun e_ => hgo.2 e_.symm) _)); have n2_ := Aside0.mk (show Below w.heap.size w w45 from (by rw [hw]; exact below_set HB.out GO.out)); clear HO BK HB HP hcz hm hf hw; have HO := n0_; have BK := n1_; have HB := n2_; clear n0_ n1_ n2_))
             go_roundg k1
             case measure => have := HK1.out; omega
             case rel => exact ⟨wrap64 (i + 1), m.set v.toNat (wrap64 (i + 1)), (by first | rfl | (simp; done)), H', ⟨by have := HK1.out; omega⟩, ⟨by (with_reducible repeat (first | apply Kd.R_alloc | apply Kd.R_drewN | apply Kd.R_drew)); exact HO.out⟩, ⟨BK.out⟩, ⟨(by repeat (first | (with_reducible first | exact HB.out | apply below_alloc | apply pw_below_drewN | apply below_drew1) | exact HB.out))⟩⟩
           ·rw [if_neg r3] at H; cases H
        ·rw [if_neg q2] at H; cases H
       ·rw [if_neg q1] at H
        have q1b := decide_eq_false q1
        clear q1
        obtain ⟨x, hx, H⟩ := Option.bind_eq_some_iff.mp H
        obtain rfl := Option.some.inj H
        obtain ⟨hl1, hl2, hl3⟩ := Kd.R_reads' HO.out
        have HX := Aside0.mk hx
        have hclo : ∀ (a b : Int) (t : Bool) (W : World), Below wr.heap.size wr W → gfL m a b = some t → Calls Try.prog 39 #[.agg #[.int .i64 a, .int .i64 b], .pointer (some ⟨g, 0, none⟩)] W fun e w' => e = .returned (.bool t) ∧ Below W.heap.size W w' := by
         intro a b t W hbW hgf
         unfold gfL at hgf
         split at hgf
         ·rename_i hc
          obtain rfl := Option.some.inj hgf
          have hgW : W.heap[g]? = some (.cells #[.slice Av m.length cv] 31 (0, 0)) := by
           rw [← hl1]; exact (hbW.block g (blk_lt BK.out)).trans BK.out
          exact clo39 a b g Av cv m W hgW (Kd.C_below hl3 hbW) hc.1 hc.2.1 hc.2.2.1 hc.2.2.2
         ·cases hgf
        have HCL := Aside0.mk (contains39 (gfL m) (.pointer (some ⟨g, 0, none⟩)) k1 A1 c1 l x wr (Kd.C_below HR1.out HB.out) hclo hx)
        have hmf : ∀ (fn : Fn) (first cap : Array Value) (w : World), (Instr.makeFunc fn first cap).run Try.prog w = .ok (.func fn first cap) w := fun _ _ _ _ => rfl
        clear hclo hl1 hl2 hl3 hx
        go_wp2_with (go_at_call 38; go_must (refine HCL.out.mono ?_; rintro e w' ⟨rfl, hb⟩; have n_ := Aside0.mk (below_step HB.out hb); clear HB hb; have HB := n_; clear n_))
        go_ret
        exact ⟨by first | rfl | (simp; done), (by repeat (first | (with_reducible first | exact HB.out | apply below_alloc | apply pw_below_drewN | apply below_drew1) | exact HB.out))⟩
    ·rw [if_neg z3] at H; cases H
   ·rw [if_neg z2] at H; cases H
  ·rw [if_neg z1] at H; obtain rfl := Option.some.inj H
   have z1b : ((o.length : Int) != n) = true := bne_iff_ne.mpr z1
   have z1c : ((o.length : Int) == n) = false := beq_eq_false_iff_ne.mpr z1
   go_enter Try.func18, Try.ntmps18
   go_wp2_with (go_at_call 20; go_must ((with_reducible refine (precedence_Valid.calls k n _ _ l 0 _ ?s1 ?s2 HE.out).mono ?_); (case s1 => exact HR1.out); (case s2 => exact HC1.out); rintro e w8 ⟨rfl, hb⟩; have n_ := Aside0.mk hb; clear HB hb; have HB := n_; clear n_))
   go_ret
   exact ⟨rfl, by exact HB.out⟩
 ·rw [if_neg z] at H; obtain rfl := Option.some.inj H
  have zb : (e != 0) = true := bne_iff_ne.mpr z
  have zc : (e == 0) = false := beq_eq_false_iff_ne.mpr z
  go_enter Try.func18, Try.ntmps18
  go_wp2_with (go_at_call 20; go_must ((with_reducible refine (precedence_Valid.calls k n _ _ l e _ ?s1 ?s2 HE.out).mono ?_); (case s1 => exact HR1.out); (case s2 => exact HC1.out); rintro e w8 ⟨rfl, hb⟩; have n_ := Aside0.mk hb; clear HB hb; have HB := n_; clear n_))
  go_ret
  exact ⟨rfl, by exact HB.out⟩
theorem idx.mono (gf : Int → Int → Option Bool) (l : List S47) : ∀ k i, LeO (idx.l0 gf l k i) (idx.l0 gf l (k + 1) i) := by
 intro k
 induction k with
 | zero => intro i; exact LeO.none _
 | succ k ih =>
  intro i
  unfold idx.l0
  refine LeO.ite (LeO.ite (LeO.bind (LeO.refl _) (fun t => LeO.ite (LeO.refl _) (ih _))) (LeO.none _)) (LeO.refl _)
theorem lin.mono (n : Int) (l : List S47) (o : List Int) : ∀ k i m, LeO (lin.l0 n l o k i m) (lin.l0 n l o (k + 1) i m) := by
 intro k
 induction k with
 | zero => intro i m; exact LeO.none _
 | succ k ih =>
  intro i m
  unfold lin.l0
  refine LeO.ite (LeO.ite (LeO.ite (LeO.refl _) (LeO.ite (LeO.refl _) (LeO.ite (LeO.ite (LeO.refl _) (ih _ _)) (LeO.none _)))) (LeO.none _)) (LeO.bind (idx.mono _ _ _ _) (fun r => LeO.refl _))
theorem precedence_Linear.mono : ∀ a0 a1 a2 k, LeO (precedence_Linear.f k a0 a1 a2) (precedence_Linear.f (k + 1) a0 a1 a2) := by
 intro a0 a1 a2 k
 unfold precedence_Linear.f
 exact LeO.bind (precedence_Valid.mono _ _ _) (fun t => LeO.ite (LeO.ite (LeO.ite (LeO.ite (lin.mono _ _ _ _ _ _) (LeO.none _)) (LeO.none _)) (LeO.refl _)) (LeO.refl _))
end Go.Proofs.Ytbbkclcfmcjlgaa.P

/- What the two functions Linear come to. Plain numbers and lists. -/

namespace Go.Proofs.Ytbbkclcfmcjlgaa.B
open Go.RowKit Go.Proofs.Ytbbkclcfmcjlgaa.P Go.Proofs.Ytbbkclcfmcjlgaa.Gr Go.Proofs.YtbbkclcfmcjlgaaW.PrintWords Go.Proofs.YtbbkclcfmcjlgaaW.PrintLast Go.Proofs.YtbbkclcfmcjlgaaW.PrintMore
set_option linter.unusedVariables false
set_option linter.unusedSimpArgs false

theorem rd_get {o : List Int} {j : Int} (j0 : 0 ≤ j) (j1 : j < (o.length : Int)) : o[j.toNat]? = some (rd o j) := by
  unfold rd
  rw [List.getElem?_eq_getElem (by omega), List.getD_eq_getElem?_getD, List.getElem?_eq_getElem (by omega)]
  rfl
theorem mem_take_rd {o : List Int} {i : Nat} {x : Int} (h : x ∈ o.take i) : ∃ j : Int, 0 ≤ j ∧ j < i ∧ j < (o.length : Int) ∧ rd o j = x := by
  obtain ⟨q, hq⟩ := List.getElem?_of_mem h
  rw [List.getElem?_take] at hq
  split at hq
  · rename_i hqi
    obtain ⟨hl, he⟩ := List.getElem?_eq_some_iff.1 hq
    refine ⟨q, by omega, by omega, by omega, ?_⟩
    unfold rd
    rw [show (q : Int).toNat = q by omega, List.getD_eq_getElem?_getD, hq]; rfl
  · cases hq
theorem rd_inj {o : List Int} (hd : o.Nodup) {i j : Int} (i0 : 0 ≤ i) (i1 : i < (o.length : Int)) (j0 : 0 ≤ j) (j1 : j < (o.length : Int)) (e : rd o i = rd o j) : i = j := by
  have h1 := rd_get i0 i1
  have h2 := rd_get j0 j1
  rw [← e] at h2
  obtain ⟨a1, a2⟩ := List.getElem?_eq_some_iff.1 h1
  obtain ⟨b1, b2⟩ := List.getElem?_eq_some_iff.1 h2
  have := (List.getElem_inj (xs := o) (h₀ := a1) (h₁ := b1) hd).1 (a2.trans b2.symm)
  omega
theorem Lst.take {n : Int} {l : List S47} {o : List Int} (h : Lst n l o) (i : Nat) : Lst n l (o.take i) := by
  refine ⟨h.1.sublist (List.take_sublist _ _), fun x hx => h.2.1 x (List.mem_of_mem_take hx), fun k x hx j hj => ?_⟩
  rw [List.getElem?_take] at hx
  split at hx
  · rename_i hk
    rw [List.take_take, Nat.min_eq_left (by omega)]
    exact h.2.2 k x hx j hj
  · cases hx
/-! ### The program's -/
end Go.Proofs.Ytbbkclcfmcjlgaa.B

/- What precedence.Cycle comes to: a search in depth. Plain numbers and lists. -/

namespace Go.Proofs.Ytbbkclcfmcjlgaa.B
open Go.RowKit Go.Proofs.Ytbbkclcfmcjlgaa.P Go.Proofs.Ytbbkclcfmcjlgaa.Gr Go.Proofs.YtbbkclcfmcjlgaaW.PrintWords Go.Proofs.YtbbkclcfmcjlgaaW.PrintLast Go.Proofs.YtbbkclcfmcjlgaaW.PrintMore
set_option linter.unusedVariables false
set_option linter.unusedSimpArgs false

theorem rd_drop (l : List Int) (i : Nat) (j : Int) (j0 : 0 ≤ j) : rd (l.drop i) j = rd l (i + j) := by
  unfold rd
  rw [List.getD_eq_getElem?_getD, List.getElem?_drop, List.getD_eq_getElem?_getD, show i + j.toNat = ((i : Int) + j).toNat by omega]
theorem rd_append_left (a b : List Int) (j : Int) (j0 : 0 ≤ j) (j1 : j < (a.length : Int)) : rd (a ++ b) j = rd a j := by
  unfold rd
  rw [List.getD_eq_getElem?_getD, List.getElem?_append_left (by omega), List.getD_eq_getElem?_getD]
theorem rd_append_end (a : List Int) (x : Int) : rd (a ++ [x]) a.length = x := by
  unfold rd
  rw [List.getD_eq_getElem?_getD, List.getElem?_append_right (by omega)]
  simp
theorem mem_rd {o : List Int} {x : Int} (h : x ∈ o) : ∃ j : Int, 0 ≤ j ∧ j < (o.length : Int) ∧ rd o j = x := by
  rw [← show o.take o.length = o from List.take_length] at h
  obtain ⟨j, h0, _, h2, e⟩ := mem_take_rd h
  exact ⟨j, h0, h2, e⟩

def Circ (l : List S47) (c : List Int) : Prop := c.Nodup ∧ 2 ≤ c.length ∧ ∀ j, 0 ≤ j → j < (c.length : Int) → Rl l (rd c j) (rd c (Int.tmod (j + 1) (c.length : Int)))
theorem circle_l0 {l : List S47} (hl : l.length ≤ 100000) (c : List Int) (hc : Circ l c) (hcl : c.length ≤ 100000) (d : Nat) : ∀ j : Int, 0 ≤ j → j + d = c.length → Ev (fun f => swarfref29_Circle.l0 f l c j) true := by
  induction d with
  | zero =>
    intro j j0 hj
    refine ev_end (fun f => ?_)
    simp only [swarfref29_Circle.l0]
    rw [if_neg (by omega), decide_eq_true (by have := hc.2.1; omega)]
  | succ d ih =>
    intro j j0 hj
    have hw := wrap_succ j j0 (by omega)
    have hr := hc.2.2 j j0 (by omega)
    have h2 := hc.2.1
    have htm : Int.tmod (j + 1) (c.length : Int) = (j + 1) % (c.length : Int) := Int.tmod_eq_emod_of_nonneg (by omega)
    have hlo := Int.emod_nonneg (j + 1) (show (c.length : Int) ≠ 0 by omega)
    have hhi := Int.emod_lt_of_pos (j + 1) (show (0 : Int) < c.length by omega)
    have hni : ¬ rd c j ∈ c.take j.toNat := fun hm => by
      obtain ⟨q, q0, q1, q2, e⟩ := mem_take_rd hm
      have := rd_inj hc.1 q0 q2 j0 (by omega) e
      omega
    refine Ev.step (f := fun f => (swarfref29_in.f f (c.take j.toNat) (rd c j)).bind fun t135 => (if t135 = true then (some false) else (if (c.length : Int) = 0 then (none) else (if 0 ≤ (Int.tmod (j + 1) (c.length : Int)) then (if (Int.tmod (j + 1) (c.length : Int)) < (c.length : Int) then ((swarfref29_Has.f f l (rd c j) (rd c (Int.tmod (j + 1) (c.length : Int)))).bind fun t138 => (if t138 = true then (swarfref29_Circle.l0 f l c (j + 1)) else (some false))) else (none)) else (none))))) (fun f => ?_) ?_
    · simp only [swarfref29_Circle.l0]
      rw [if_pos (by omega), if_pos j0, if_pos (by omega), hw]
    · refine Ev.bind (in_ev _ (by rw [List.length_take]; omega) _) ?_
      simp only [decide_eq_false hni, Bool.false_eq_true, if_false, if_neg (show ¬ (c.length : Int) = 0 by omega), if_pos (show 0 ≤ Int.tmod (j + 1) (c.length : Int) by rw [htm]; exact hlo), if_pos (show Int.tmod (j + 1) (c.length : Int) < (c.length : Int) by rw [htm]; exact hhi)]
      refine Ev.bind (has_ev l (by omega) _ _) ?_
      simp only [decide_eq_true (show (⟨rd c j, rd c (Int.tmod (j + 1) (c.length : Int))⟩ : S47) ∈ l from hr), if_true]
      exact ih (j + 1) (by omega) (by omega)
theorem circle_ev {l : List S47} (hl : l.length ≤ 100000) (c : List Int) (hc : Circ l c) (hcl : c.length ≤ 100000) : Ev (fun f => swarfref29_Circle.f f l c) true := by
  unfold swarfref29_Circle.f
  exact circle_l0 hl c hc hcl c.length 0 (by omega) (by omega)

/-! ### The state of the search -/
def Dn (D : List Bool) (x : Int) : Prop := rdOf false D x = true
structure StOk (n : Int) (l : List S47) (D : List Bool) (T P : List Int) : Prop where
  tl : (T.length : Int) = n
  dl : (D.length : Int) = n
  nd : P.Nodup
  rg : ∀ x ∈ P, 0 ≤ x ∧ x < n
  ch : ∀ j, 0 ≤ j → j + 1 < (P.length : Int) → Rl l (rd P j) (rd P (j + 1))
  t1 : ∀ j, 0 ≤ j → j < (P.length : Int) → rd T (rd P j) = j + 1
  t0 : ∀ x, 0 ≤ x → x < n → ¬ x ∈ P → rd T x = 0
  cl : ∀ x, 0 ≤ x → x < n → Dn D x → ∀ y, Rl l x y → Dn D y
  ac : ∀ x, 0 ≤ x → x < n → Dn D x → ¬ Tc (Rl l) x x
  dj : ∀ x ∈ P, ¬ Dn D x
theorem StOk.reach {n : Int} {l : List S47} {D : List Bool} {T P : List Int} (h : StOk n l D T P) (hin : Inn (Rl l) n) {a b : Int} (ht : Tc (Rl l) a b) : Dn D a → Dn D b := by
  induction ht with
  | @one a b hr => exact fun ha => h.cl a (hin _ _ hr).1.1 (hin _ _ hr).1.2 ha b hr
  | @step a c b hr _ ih => exact fun ha => ih (h.cl a (hin _ _ hr).1.1 (hin _ _ hr).1.2 ha c hr)
theorem StOk.len {n : Int} {l : List S47} {D : List Bool} {T P : List Int} (h : StOk n l D T P) (hn : 0 ≤ n) : (P.length : Int) ≤ n := by
  have := pig n.toNat P h.nd (fun x hx => by have := h.rg x hx; omega)
  omega
theorem bset (D : List Bool) (a b : Int) (x : Bool) (h0 : 0 ≤ a) (h1 : a < (D.length : Int)) (hb : 0 ≤ b) : rdOf false (D.set a.toNat x) b = if b = a then x else rdOf false D b := by
  by_cases e : b = a
  · subst e; rw [if_pos rfl, of_set_self D b x h0 h1]
  · rw [if_neg e, of_set_ne D a b x h0 hb e]
def VOk (n : Int) (l : List S47) (i : Int) (D : List Bool) (P : List Int) (u : List Int × List Bool × List Int × List Int) : Prop :=
  (u.1 = [] ∧ u.2.2.2 = P ∧ StOk n l u.2.1 u.2.2.1 P ∧ Dn u.2.1 i ∧ ∀ x, 0 ≤ x → x < n → Dn D x → Dn u.2.1 x) ∨ (u.1 ≠ [] ∧ Circ l u.1 ∧ (u.1.length : Int) ≤ n)
theorem StOk.push {n : Int} {l : List S47} {D : List Bool} {T P : List Int} (h : StOk n l D T P) {i : Int} (i0 : 0 ≤ i) (i1 : i < n) (hP : ¬ i ∈ P) (hD : ¬ Dn D i) (hlk : ¬ P = [] → Rl l (rd P (P.length - 1)) i) : StOk n l D (T.set i.toNat (P.length + 1)) (P ++ [i]) := by
  have htl := h.tl
  refine ⟨by rw [List.length_set]; exact h.tl, h.dl, ?_, fun x hx => ?_, fun j j0 j1 => ?_, fun j j0 j1 => ?_, fun x x0 x1 hx => ?_, h.cl, h.ac, fun x hx => ?_⟩
  · rw [List.nodup_append]
    exact ⟨h.nd, by simp, fun a ha b hb => by
      rw [List.mem_singleton] at hb
      subst hb
      exact fun e => hP (e ▸ ha)⟩
  · rcases List.mem_append.1 hx with hx | hx
    · exact h.rg x hx
    · rw [List.mem_singleton] at hx; subst hx; exact ⟨i0, i1⟩
  · rw [List.length_append, List.length_singleton] at j1
    by_cases e : j + 1 = P.length
    · rw [rd_append_left _ _ j j0 (by omega), e, rd_append_end]
      have := hlk (fun e2 => by rw [e2] at e; simp at e; omega)
      rwa [show (P.length : Int) - 1 = j by omega] at this
    · rw [rd_append_left _ _ j j0 (by omega), rd_append_left _ _ (j + 1) (by omega) (by omega)]
      exact h.ch j j0 (by omega)
  · rw [List.length_append, List.length_singleton] at j1
    by_cases e : j = P.length
    · subst e
      rw [rd_append_end, rd_set T i i _ i0 (by omega) i0, if_pos rfl]
    · rw [rd_append_left _ _ j j0 (by omega)]
      have hm := rd_mem P j j0 (by omega)
      have hr := h.rg _ hm
      rw [rd_set T i _ _ i0 (by omega) hr.1, if_neg (by intro e2; rw [e2] at hm; exact hP hm)]
      exact h.t1 j j0 (by omega)
  · rw [rd_set T i x _ i0 (by omega) x0, if_neg (fun e => hx (by rw [e]; simp))]
    exact h.t0 x x0 x1 (fun hm => hx (List.mem_append_left _ hm))
  · rcases List.mem_append.1 hx with hx | hx
    · exact h.dj x hx
    · rw [List.mem_singleton] at hx; subst hx; exact hD
theorem StOk.pop {n : Int} {l : List S47} {D : List Bool} {T P : List Int} {i : Int} (hin : Inn (Rl l) n) (h : StOk n l D T (P ++ [i])) (hall : ∀ y, Rl l i y → Dn D y) : StOk n l (D.set i.toNat true) (T.set i.toNat 0) P ∧ Dn (D.set i.toNat true) i ∧ ∀ x, 0 ≤ x → x < n → Dn D x → Dn (D.set i.toNat true) x := by
  have hii := h.rg i (by simp)
  have htl := h.tl
  have hdl := h.dl
  have hiD := h.dj i (by simp)
  have hset := fun (x : Int) (x0 : 0 ≤ x) => bset D i x true hii.1 (by omega) x0
  have hup : ∀ x, 0 ≤ x → x < n → Dn D x → Dn (D.set i.toNat true) x := fun x x0 x1 hx => by
    unfold Dn
    rw [hset x x0]
    split
    · rfl
    · exact hx
  have hnd := h.nd
  rw [List.nodup_append] at hnd
  have hiP : ¬ i ∈ P := fun hm => hnd.2.2 i hm i (by simp) rfl
  refine ⟨⟨by rw [List.length_set]; exact h.tl, by rw [List.length_set]; exact h.dl, hnd.1, fun x hx => h.rg x (List.mem_append_left _ hx), fun j j0 j1 => ?_, fun j j0 j1 => ?_, fun x x0 x1 hx => ?_, fun x x0 x1 hx y hy => ?_, fun x x0 x1 hx => ?_, fun x hx => ?_⟩, ?_, hup⟩
  · have := h.ch j j0 (by rw [List.length_append, List.length_singleton]; omega)
    rwa [rd_append_left _ _ j j0 (by omega), rd_append_left _ _ (j + 1) (by omega) (by omega)] at this
  · have hm := rd_mem P j j0 j1
    have hr := h.rg _ (List.mem_append_left _ hm)
    rw [rd_set T i _ _ hii.1 (by omega) hr.1, if_neg (by intro e; rw [e] at hm; exact hiP hm)]
    have := h.t1 j j0 (by rw [List.length_append, List.length_singleton]; omega)
    rwa [rd_append_left _ _ j j0 j1] at this
  · rw [rd_set T i x _ hii.1 (by omega) x0]
    split
    · rfl
    · rename_i e
      exact h.t0 x x0 x1 (by simp [hx, e])
  · have hyr := (hin _ _ hy).2
    by_cases e : x = i
    · subst e
      exact hup y hyr.1 hyr.2 (hall y hy)
    · refine hup y hyr.1 hyr.2 (h.cl x x0 x1 ?_ y hy)
      unfold Dn at hx
      rw [hset x x0, if_neg e] at hx
      exact hx
  · by_cases e : x = i
    · subst e
      intro ht
      obtain ⟨c, hc, hcx⟩ := ht.head
      have hdc := hall c hc
      rcases hcx with rfl | hcx
      · exact hiD hdc
      · exact hiD (h.reach hin hcx hdc)
    · refine h.ac x x0 x1 ?_
      unfold Dn at hx
      rw [hset x x0, if_neg e] at hx
      exact hx
  · intro hx2
    have hxr := h.rg x (List.mem_append_left _ hx)
    unfold Dn at hx2
    rw [hset x hxr.1, if_neg (by intro e; rw [e] at hx; exact hiP hx)] at hx2
    exact h.dj x (List.mem_append_left _ hx) hx2
  · unfold Dn
    rw [hset i hii.1, if_pos rfl]
theorem StOk.circ {n : Int} {l : List S47} (hok : ∀ p ∈ l, okp n p = true) {D : List Bool} {T P : List Int} (h : StOk n l D T P) {j : Int} (j0 : 0 ≤ j) (j1 : j < (P.length : Int)) (hlk : Rl l (rd P (P.length - 1)) (rd P j)) : Circ l (P.drop j.toNat) := by
  have hlen : ((P.drop j.toNat).length : Int) = P.length - j := by rw [List.length_drop]; omega
  have hj2 : j + 1 < (P.length : Int) := by
    by_cases e : j + 1 = P.length
    · exact absurd (by rw [show (P.length : Int) - 1 = j by omega]) (rl_ne hok hlk)
    · omega
  refine ⟨h.nd.sublist (List.drop_sublist _ _), by omega, fun t t0 t1 => ?_⟩
  rw [hlen] at t1
  rw [rd_drop _ _ t t0, hlen, show ((j.toNat : Nat) : Int) = j by omega]
  by_cases e : t + 1 = P.length - j
  · rw [e, Int.tmod_self, rd_drop _ _ 0 (by omega), show ((j.toNat : Nat) : Int) + 0 = j by omega, show j + t = (P.length : Int) - 1 by omega]
    exact hlk
  · have htm : Int.tmod (t + 1) ((P.length : Int) - j) = t + 1 := by
      rw [Int.tmod_eq_emod_of_nonneg (by omega)]
      exact Int.emod_eq_of_lt (by omega) (by omega)
    rw [htm, rd_drop _ _ (t + 1) (by omega), show ((j.toNat : Nat) : Int) + (t + 1) = j + t + 1 by omega]
    exact h.ch (j + t) (by omega) (by omega)
theorem visit_ev {n : Int} {l : List S47} (hn : 0 ≤ n ∧ n ≤ 200) (hl : l.length ≤ 2000) (hok : ∀ p ∈ l, okp n p = true) (bh : List (List Int)) (hbl : (bh.length : Int) = n) (hb : ∀ i, 0 ≤ i → i < n → rd_L3 bh i = beh l i) (d : Nat) : ∀ (i : Int) (D : List Bool) (T P : List Int), (P.length : Int) + d = n → 0 ≤ i → i < n → StOk n l D T P → (¬ P = [] → Rl l (rd P (P.length - 1)) i) → EvP (fun f => visit.f bh f i D T P) (VOk n l i D P) := by
  have hin := rl_inn hok
  induction d with
  | zero =>
    intro i D T P hd i0 i1 h hlk
    have hm := full_in h.nd h.rg (by omega) i i0 i1
    obtain ⟨j, j0, j1, e⟩ := mem_rd hm
    have ht := h.t1 j j0 j1
    rw [e] at ht
    have htl := h.tl
    have hdl := h.dl
    have hc := h.circ hok j0 j1 (by rw [e]; exact hlk (fun e2 => by rw [e2] at hm; cases hm))
    refine EvP.stop (P.drop j.toNat, D, T, P) (fun f => ?_) (.inr ⟨fun e2 => by have := congrArg List.length e2; rw [List.length_drop] at this; simp at this; omega, hc, by simp only [List.length_drop]; omega⟩)
    rw [visit.f, if_pos ⟨i0, by omega, by omega, by omega, by omega⟩, if_pos (by omega), if_pos (by omega), ht, show (j + 1 - 1).toNat = j.toNat by omega]
  | succ d ih =>
    intro i D T P hd i0 i1 h hlk
    have htl := h.tl
    have hdl := h.dl
    by_cases hm : i ∈ P
    · obtain ⟨j, j0, j1, e⟩ := mem_rd hm
      have ht := h.t1 j j0 j1
      rw [e] at ht
      have hc := h.circ hok j0 j1 (by rw [e]; exact hlk (fun e2 => by rw [e2] at hm; cases hm))
      refine EvP.stop (P.drop j.toNat, D, T, P) (fun f => ?_) (.inr ⟨fun e2 => by have := congrArg List.length e2; rw [List.length_drop] at this; simp at this; omega, hc, by simp only [List.length_drop]; omega⟩)
      rw [visit.f, if_pos ⟨i0, by omega, by omega, by omega, by omega⟩, if_pos (by omega), if_pos (by omega), ht, show (j + 1 - 1).toNat = j.toNat by omega]
    · have ht := h.t0 i i0 i1 hm
      by_cases hD : Dn D i
      · refine EvP.stop ([], D, T, P) (fun f => ?_) (.inl ⟨rfl, rfl, h, hD, fun x _ _ hx => hx⟩)
        rw [visit.f, if_pos ⟨i0, by omega, by omega, by omega, by omega⟩, if_neg (by omega), if_pos (show rdOf false D i = true from hD)]
      · have hpush := h.push i0 i1 hm hD hlk
        have hrow : bh.getD i.toNat [] = beh l i := hb i i0 i1
        have key : ∀ (e : Nat) (x : Int) (D2 : List Bool) (T2 : List Int), 0 ≤ x → x + e = (beh l i).length → StOk n l D2 T2 (P ++ [i]) → (∀ y, 0 ≤ y → y < n → Dn D y → Dn D2 y) → (∀ q, 0 ≤ q → q < x → Dn D2 (rd (beh l i) q)) → EvP (fun f => visit.l0 bh f i x D2 T2 (P ++ [i])) (VOk n l i D P) := by
          have hlb := beh_len l i
          intro e
          induction e with
          | zero =>
            intro x D2 T2 x0 hx hs hup hall
            have hp := hs.pop hin (fun y hy => by
              obtain ⟨q, q0, q1, e⟩ := mem_rd ((mem_beh l i y).2 hy)
              rw [← e]
              exact hall q q0 (by omega))
            refine EvP.stop ([], D2.set i.toNat true, T2.set i.toNat 0, P) (fun f => ?_) (.inl ⟨rfl, rfl, hp.1, hp.2.1, fun y y0 y1 hy => hp.2.2 y y0 y1 (hup y y0 y1 hy)⟩)
            rw [visit.l0, hrow, if_neg (by omega), if_pos (by simp)]
            simp
          | succ e ihe =>
            intro x D2 T2 x0 hx hs hup hall
            have hw := wrap_succ x x0 (by omega)
            have hmem := rd_mem (beh l i) x x0 (by omega)
            have hR := (mem_beh l i _).1 hmem
            have hcr := (hin _ _ hR).2
            refine EvP.step (f := fun f => (visit.f bh f (rd (beh l i) x) D2 T2 (P ++ [i])).bind fun u => if u.1 = [] then visit.l0 bh f i (wrap64 (x + 1)) u.2.1 u.2.2.1 u.2.2.2 else some u) (fun f => ?_) ?_
            · simp only [visit.l0]
              rw [hrow, if_pos (by omega), if_pos x0]
            · refine EvP.bindP (ih (rd (beh l i) x) D2 T2 (P ++ [i]) (by rw [List.length_append, List.length_singleton]; omega) hcr.1 hcr.2 hs (fun _ => ?_)) (fun u hu => ?_)
              · rw [List.length_append, List.length_singleton, show ((P.length + 1 : Nat) : Int) - 1 = P.length by omega, rd_append_end]
                exact hR
              · rcases hu with ⟨h1, h2, h3, h4, h5⟩ | ⟨h1, h2, h3⟩
                · simp only [if_pos h1, h2, hw]
                  refine ihe (x + 1) u.2.1 u.2.2.1 (by omega) (by omega) h3 (fun y y0 y1 hy => h5 y y0 y1 (hup y y0 y1 hy)) (fun q q0 q1 => ?_)
                  by_cases eq : q = x
                  · subst eq; exact h4
                  · have hqr := (hin _ _ ((mem_beh l i _).1 (rd_mem (beh l i) q q0 (by omega)))).2
                    exact h5 _ hqr.1 hqr.2 (hall q q0 (by omega))
                · simp only [if_neg h1]
                  exact ⟨_, Ev.now _, .inr ⟨h1, h2, h3⟩⟩
        refine EvP.step (fun f => ?_) (key (beh l i).length 0 D _ (by omega) (by omega) hpush (fun y _ _ hy => hy) (fun q q0 q1 => by omega))
        rw [visit.f, if_pos ⟨i0, by omega, by omega, by omega, by omega⟩, if_neg (by omega), if_neg (show ¬ rdOf false D i = true from hD)]
def CycOk (n : Int) (l : List S47) (t : List Int × Bool) : Prop :=
  (vErr n l ≠ 0 ∧ t = ([], false)) ∨ (vErr n l = 0 ∧ Acyc (Rl l) ∧ t = ([], false)) ∨ (vErr n l = 0 ∧ ¬ Acyc (Rl l) ∧ t.2 = true ∧ Circ l t.1 ∧ (t.1.length : Int) ≤ n)
theorem Circ.cyclic {l : List S47} {c : List Int} (h : Circ l c) : ¬ Acyc (Rl l) := by
  intro ha
  have h2 := h.2.1
  have key : ∀ m : Nat, (m : Int) + 1 < c.length → Tc (Rl l) (rd c 0) (rd c (m + 1)) := by
    intro m
    induction m with
    | zero =>
      intro hm
      have := h.2.2 0 (by omega) (by omega)
      rw [Int.tmod_eq_emod_of_nonneg (by omega), Int.emod_eq_of_lt (by omega) (by omega)] at this
      exact .one this
    | succ m ih =>
      intro hm
      refine (ih (by omega)).trans (.one ?_)
      have := h.2.2 (m + 1) (by omega) (by omega)
      rw [Int.tmod_eq_emod_of_nonneg (by omega), Int.emod_eq_of_lt (by omega) (by omega)] at this
      rw [show ((m + 1 : Nat) : Int) + 1 = (m : Int) + 1 + 1 by omega]
      exact this
  have h3 := key (c.length - 2) (by omega)
  rw [show ((c.length - 2 : Nat) : Int) + 1 = (c.length : Int) - 1 by omega] at h3
  have h4 := h.2.2 ((c.length : Int) - 1) (by omega) (by omega)
  rw [show (c.length : Int) - 1 + 1 = c.length by omega, Int.tmod_self] at h4
  exact ha _ (h3.trans (.one h4))
theorem cyc_l0 {n : Int} {l : List S47} (hn : 0 ≤ n ∧ n ≤ 200) (hl : l.length ≤ 2000) (hok : ∀ p ∈ l, okp n p = true) (hz : vErr n l = 0) (bh : List (List Int)) (hbl : (bh.length : Int) = n) (hb : ∀ i, 0 ≤ i → i < n → rd_L3 bh i = beh l i) (d : Nat) : ∀ (i : Int) (D : List Bool) (T : List Int), 0 ≤ i → i + d = n → StOk n l D T [] → (∀ x, 0 ≤ x → x < i → Dn D x) → EvP (fun f => cyc.l0 n bh f i D T []) (CycOk n l) := by
  have hin := rl_inn hok
  induction d with
  | zero =>
    intro i D T i0 hi h hall
    refine EvP.stop ([], false) (fun f => by simp only [cyc.l0]; rw [if_neg (by omega)]) (.inr (.inl ⟨hz, fun a ha => ?_, rfl⟩))
    have har := (ha.inn hin).1
    exact h.ac a har.1 har.2 (hall a har.1 (by omega)) ha
  | succ d ih =>
    intro i D T i0 hi h hall
    have hw := wrap_succ i i0 (by omega)
    refine EvP.step (f := fun f => (visit.f bh f i D T []).bind fun u => if u.1 = [] then cyc.l0 n bh f (wrap64 (i + 1)) u.2.1 u.2.2.1 u.2.2.2 else some (u.1, true)) (fun f => ?_) ?_
    · simp only [cyc.l0]
      rw [if_pos (by omega)]
    · refine EvP.bindP (visit_ev hn hl hok bh hbl hb n.toNat i D T [] (by simp; omega) i0 (by omega) h (fun e => absurd rfl e)) (fun u hu => ?_)
      rcases hu with ⟨h1, h2, h3, h4, h5⟩ | ⟨h1, h2, h3⟩
      · simp only [if_pos h1, h2, hw]
        refine ih (i + 1) u.2.1 u.2.2.1 (by omega) (by omega) h3 (fun x x0 x1 => ?_)
        by_cases e : x = i
        · subst e; exact h4
        · exact h5 x x0 (by omega) (hall x x0 (by omega))
      · simp only [if_neg h1]
        exact ⟨_, Ev.now _, .inr (.inr ⟨hz, h2.cyclic, rfl, h2, h3⟩)⟩
theorem cycle_ev (n : Int) (l : List S47) (hl : l.length ≤ 100000000000000) : EvP (fun f => precedence_Cycle.f f n l) (CycOk n l) := by
  unfold precedence_Cycle.f
  refine EvP.bind (valid_ev n l hl) ?_
  by_cases z : vErr n l = 0
  · simp only [if_pos z]
    obtain ⟨k1, k2, k3, k4⟩ := vErr_zero z
    refine EvP.bindP (read_ev z) (fun u hu => ?_)
    simp only [if_pos (show 0 ≤ n ∧ n.toNat ≤ 35184372088832 from ⟨k1, by omega⟩)]
    have hno : ∀ x, ¬ Dn (List.replicate n.toNat false) x := fun x hx => by
      unfold Dn rdOf at hx
      rw [List.getD_eq_getElem?_getD, List.getElem?_replicate] at hx
      split at hx <;> cases hx
    refine cyc_l0 ⟨k1, k2⟩ k3 k4 z u.2 hu.2.1 (fun i i0 i1 => (hu.2.2 i i0 i1).2) n.toNat 0 _ _ (by omega) (by omega) ⟨by simp; omega, by simp; omega, by simp, by simp, fun j j0 j1 => by simp at j1; omega, fun j j0 j1 => by simp at j1; omega, fun x x0 x1 _ => ?_, fun x _ _ hx => absurd hx (hno x), fun x _ _ hx => absurd hx (hno x), by simp⟩ (fun x x0 x1 => by omega)
    unfold rd
    rw [List.getD_eq_getElem?_getD, List.getElem?_replicate]
    split <;> rfl
  · simp only [if_neg z]
    exact ⟨_, Ev.now _, .inl ⟨z, rfl⟩⟩
end Go.Proofs.Ytbbkclcfmcjlgaa.B

/- PrecedenceCycle: the printed law answers true. -/

namespace Go.Proofs.Ytbbkclcfmcjlgaa.B
open Go.RowKit Go.Proofs.Ytbbkclcfmcjlgaa.P Go.Proofs.Ytbbkclcfmcjlgaa.Gr Go.Proofs.YtbbkclcfmcjlgaaW.PrintWords Go.Proofs.YtbbkclcfmcjlgaaW.PrintLast Go.Proofs.YtbbkclcfmcjlgaaW.PrintMore
set_option linter.unusedVariables false
set_option linter.unusedSimpArgs false
theorem claw_j0 (n : Int) (l : List S47) (b : Bool) (h : b = false → l.length ≤ 60) : EvP (fun k => swarflaw29_PrecedenceCycle.j0 k n l b) (fun r => r = true) := by
  cases b with
  | true =>
    refine EvP.step (f := fun k => (swarflaw29_awake.f k).bind fun t => some t) (fun k => ?_) (EvP.bind awake_ev ⟨true, Ev.now _, rfl⟩)
    simp only [swarflaw29_PrecedenceCycle.j0]
    rw [if_pos trivial]
  | false =>
    have hl := h rfl
    refine EvP.step (f := fun k => (precedence_Cycle.f k n l).bind fun bt318 => ((swarfref29_Valid.f k n l).bind fun t322 => (if t322 = 0 then ((swarfref29_Cyclic.f k n l).bind fun t323 => (if t323 = true then (if bt318.2 = true then ((swarfref29_Circle.f k l bt318.1).bind fun t324 => (some t324)) else (some false)) else (if bt318.2 = true then (some false) else (some ((bt318.1.length : Int) == 0))))) else (if bt318.2 = true then (some false) else (some ((bt318.1.length : Int) == 0)))))) (fun k => ?_) ?_
    · simp only [swarflaw29_PrecedenceCycle.j0]
      rw [if_neg (by decide), cp_eq l (by omega)]
      rfl
    · refine EvP.bindP (cycle_ev n l (by omega)) (fun t ht => EvP.bind (rvalid_ev n l (by omega)) ?_)
      rcases ht with ⟨h1, rfl⟩ | ⟨h1, h2, rfl⟩ | ⟨h1, h2, h3, h4, h5⟩
      · simp only [if_neg h1]
        exact ⟨true, Ev.now _, rfl⟩
      · simp only [if_pos h1]
        refine EvP.bindP (cyclic_ev h1) (fun r hr => ?_)
        have : r = false := by
          cases r with
          | true => exact absurd h2 (hr.1 rfl)
          | false => rfl
        subst this
        simp only [Bool.false_eq_true, if_false]
        exact ⟨true, Ev.now _, rfl⟩
      · simp only [if_pos h1]
        have hn := vErr_zero h1
        refine EvP.bindP (cyclic_ev h1) (fun r hr => ?_)
        rw [hr.2 h2]
        simp only [if_true, h3]
        exact EvP.bind (circle_ev (by omega) t.1 h4 (by omega)) ⟨true, Ev.now _, rfl⟩
theorem PrecedenceCycle (n : Int) (l : List S47) : ∃ k, swarflaw29_PrecedenceCycle.f k n l = some true := by
  have hev : ∀ {g : Nat → Option Bool}, EvP g (fun r => r = true) → Ev g true := fun h => by
    obtain ⟨r, h1, rfl⟩ := h
    exact h1
  refine Ev.rounds (g := fun k => swarflaw29_PrecedenceCycle.f k n l) (hev ?_)
  unfold swarflaw29_PrecedenceCycle.f
  refine EvP.bind awake_ev ?_
  simp only [if_true]
  refine EvP.bind (few_ev n 30 l) ?_
  refine claw_j0 n l _ (fun h => ?_)
  have h2 : fewB n 30 l = true := by simpa using h
  unfold fewB at h2
  by_cases c : (l.length : Int) ≤ 60
  · omega
  · rw [if_neg c] at h2; cases h2
end Go.Proofs.Ytbbkclcfmcjlgaa.B
