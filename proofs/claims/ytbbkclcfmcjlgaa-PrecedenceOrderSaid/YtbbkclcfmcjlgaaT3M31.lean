import Derived.Test.YtbbkclcfmcjlgaaT3M30
import Derived.Test.YtbbkclcfmcjlgaaT3M21
import Derived.Test.YtbbkclcfmcjlgaaT3Px32
/- The contract of precedence.Linear (function 18), by hand: a slice in a captured variable is written. -/

namespace Go.Proofs.Ytbbkclcfmcjlgaa.P
open Go.RowKit Go.Proofs.YtbbkclcfmcjlgaaW.PrintWords Go.Proofs.YtbbkclcfmcjlgaaW.PrintLast Go.Proofs.YtbbkclcfmcjlgaaW.PrintMore
set_option linter.unusedVariables false
set_option linter.unusedSimpArgs false

def gfL (m : List Int) (x y : Int) : Option Bool := if 0 ≤ x ∧ x < m.length ∧ 0 ≤ y ∧ y < m.length then some (decide (rd m x > rd m y)) else none
def lin.l0 (n : Int) (l : List S47) (o : List Int) : Nat → Int → List Int → Option Bool
 | 0, _, _ => none
 | k + 1, i, m => if i < (o.length : Int) then (if 0 ≤ i then (if rd o i < 0 then some false else if rd o i ≥ n then some false else if rd o i < (m.length : Int) then (if rd m (rd o i) > 0 then some false else lin.l0 n l o k (wrap64 (i + 1)) (m.set (rd o i).toNat (wrap64 (i + 1)))) else none) else none) else (idx.l0 (gfL m) l k 0).bind fun r => some (!(decide (r ≥ 0)))
def precedence_Linear.f (k : Nat) (n : Int) (l : List S47) (o : List Int) : Option Bool := (precedence_Valid.f k n l).bind fun e => if e = 0 then (if (o.length : Int) = n then (if 0 ≤ n then (if n.toNat ≤ 35184372088832 then lin.l0 n l o k 0 (List.replicate n.toNat 0) else none) else none) else some false) else some false
set_option maxHeartbeats 8000000 in
set_option maxRecDepth 100000 in
theorem precedence_Linear.calls (k : Nat) (n : Int) (A1 : Option Addr) (c1 : Nat) (l : List S47) (A2 : Option Addr) (c2 : Nat) (o : List Int) (r : Bool) (w : World) (hr1 : Kd.C k47 w A1 l.length l) (hc1 : l.length ≤ c1) (hr2 : Kd.C (Kd.int .i64) w A2 o.length o) (hc2 : o.length ≤ c2) (h : precedence_Linear.f k n l o = some r) :
  Calls Try.prog 18 #[.int .i64 n, .slice A1 l.length c1, .slice A2 o.length c2] w fun e w' => e = .returned (.bool r) ∧ Below w.heap.size w w' := by
 have HR1 := Aside0.mk hr1
 have HC1 := Aside0.mk hc1
 have HR2 := Aside0.mk hr2
 have HC2 := Aside0.mk hc2
 clear hr1 hc1 hr2 hc2
 unfold precedence_Linear.f at h
 obtain ⟨e, he, H⟩ := Option.bind_eq_some_iff.mp h
 have HE := Aside0.mk he
 clear h he
 have HB := Aside0.mk (Below.refl w.heap.size w)
 by_cases z : e = 0
 ·rw [if_pos z] at H; subst z
  by_cases z1 : (o.length : Int) = n
  ·rw [if_pos z1] at H
   have z1b : ((o.length : Int) != n) = false := bne_eq_false_iff_eq.mpr z1
   have z1c : ((o.length : Int) == n) = true := beq_iff_eq.mpr z1
   by_cases z2 : 0 ≤ n
   ·rw [if_pos z2] at H
    by_cases z3 : n.toNat ≤ 35184372088832
    ·rw [if_pos z3] at H
     obtain ⟨y, hy⟩ : ∃ y : List Int, y = List.replicate n.toNat 0 := ⟨_, rfl⟩
     rw [← hy] at H; have NY := Aside0.mk hy; clear hy; have H' := Aside0.mk H; have Z2 := Aside0.mk z2; have Z3 := Aside0.mk z3
     have z2' := eq_true z2
     clear H z1 z2 z3
     go_enter Try.func18, Try.ntmps18
     go_wp2_with (first | (go_at_call 20; go_must ((with_reducible refine (precedence_Valid.calls k n _ _ l 0 _ ?s1 ?s2 HE.out).mono ?_); (case s1 => exact HR1.out); (case s2 => exact HC1.out); rintro e w8 ⟨rfl, hb⟩; have n_ := Aside0.mk hb; clear HB hb; have HB := n_; clear n_)) | ((with_reducible refine gate_dst (N := 21) rfl ?_); go_must (refine Kd.R_make (Kd.int .i64) _ 3 rfl (N := 21) rfl 31 _ _ rfl n rfl rfl Try.underlying31 (.int .i64 0) 8 info3 rfl (by decide) (by omega) 0 (ok := fun _ => True) (okp := fun _ => True) rfl (fun _ hk => hk) trivial Z2.out (Nat.le_trans (Nat.mul_le_mul_right _ Z3.out) (by omega)) (Below.refl _ _) (Nat.le_refl _) ?_; intro va w9 ho hb hg_ hnew_; clear hg_ hnew_; rw [← NY.out] at ho; have n0_ := Aside0.mk (Kd.R_lower ho (below_size (HB.out))); have n1_ := Aside0.mk (below_step HB.out hb); clear HB ho hb; have HO := n0_; have HB := n1_; clear n0_ n1_)) | ((with_reducible refine gate_dst (N := 7) rfl ?_); go_must (refine box_event ?hg (N := 7) ?hd (cs := #[.slice none 0 0]) (t := 31) ?hr ?_; (case hd => rfl); (case hg => rfl); (case hr => first | (go_simp; done) | (go_simp; rfl)); intro g hg w10 hbox hb; have n0_ := Aside0.mk (Kd.R_types (Kd.R_below HO.out hb) hbox (by decide)); have n1_ := Aside0.mk (below_step HB.out hb); have GB := Aside0.mk (by rw [hg]; exact below_size HB.out : w.heap.size ≤ g); have BK := Aside0.mk hbox; have hfz := blk_frozen hbox 0; have hzz : w10.cell? ⟨g, 0, none⟩ = some (.slice none 0 0) := (blk_cell hbox 0).trans rfl; clear HO HB hb hbox hg; have HO := n0_; have HB := n1_; clear n0_ n1_; obtain ⟨Av, cv, ev⟩ := Kd.R_slice HO.out; subst ev)))
     go_loopg [24] k (fun kq v24 w' => ∃ (i : Int) (m : List Int), v24 = .int .i64 i ∧ Aside0 (lin.l0 n l o kq i m = some r) ∧ Aside0 (kq ≤ k) ∧ Aside0 (Kd.R (Kd.int .i64) 3 w' w.heap.size (fun k_ => True ∧ k_ ≠ g) (.slice Av y.length cv) m) ∧ Aside0 (w'.heap[g]? = some (.cells #[.slice Av y.length cv] 31 (0, 0))) ∧ Aside0 (Below w.heap.size w w'))
     case atStart => exact ⟨0, y, rfl, H', ⟨Nat.le_refl _⟩, ⟨Kd.R_far (p := ⟨g, 0, none⟩) HO.out (fun _ hk => hk.2) _⟩, ⟨blk_put (cs := #[.slice none 0 0]) BK.out 0 _ rfl⟩, ⟨below_set HB.out GB.out⟩⟩
     case round =>
      clear H' HO BK HB hfz hzz
      obtain ⟨i, m, rfl, HA, HK1, HO, BK, HB⟩ := hrel
      cases gk with
      | zero => exact absurd HA.out (by simp [lin.l0])
      | succ k1 =>
       have H := HA.out
       clear HA
       simp only [lin.l0] at H
       have hcz : wr.cell? ⟨g, 0, none⟩ = some (.slice Av y.length cv) := (blk_cell BK.out 0).trans rfl
       by_cases q1 : i < (o.length : Int)
       ·rw [if_pos q1] at H
        by_cases q2 : 0 ≤ i
        ·rw [if_pos q2] at H
         obtain ⟨ad, e, hx⟩ := Kd.at_int HR2.out i q2 q1
         cases e
         replace hx := (HB.out.cell (World.block_lt_of_cell? w _ hx)).trans hx
         generalize rd o i = v at H hx
         have q1b := decide_eq_true q1
         have q1' := eq_true q1
         have q2' := eq_true q2
         clear q1 q2
         by_cases r1 : v < 0
         ·rw [if_pos r1] at H; obtain rfl := Option.some.inj H
          have r1b := decide_eq_true r1
          clear r1; go_wp2; go_ret
          exact ⟨rfl, (by repeat (first | (with_reducible first | exact HB.out | apply below_alloc | apply pw_below_drewN | apply below_drew1) | exact HB.out))⟩
         ·rw [if_neg r1] at H
          have r1b := decide_eq_false r1
          have r1c := eq_true (show 0 ≤ v by omega)
          by_cases r2 : v ≥ n
          ·rw [if_pos r2] at H; obtain rfl := Option.some.inj H
           have r2b := decide_eq_true r2
           have r2c : decide (n ≤ v) = true := decide_eq_true r2
           clear r1 r2; go_wp2; go_ret
           exact ⟨rfl, (by repeat (first | (with_reducible first | exact HB.out | apply below_alloc | apply pw_below_drewN | apply below_drew1) | exact HB.out))⟩
          ·rw [if_neg r2] at H
           have r2b := decide_eq_false r2
           have r2c : decide (n ≤ v) = false := decide_eq_false r2
           by_cases r3 : v < (m.length : Int)
           ·rw [if_pos r3] at H
            obtain ⟨hl1, hl2, hl3⟩ := Kd.R_reads' HO.out
            have r3' : v < (y.length : Int) := by omega
            have v0 : 0 ≤ v := by omega
            obtain ⟨go, co, eo, gb, gl, cl, HG⟩ := Kd.R_form HO.out (by omega)
            injection eo with e1 e2 e3
            subst e1; subst e3
            obtain ⟨hm0, hf⟩ := Kd.R_celln 0 HO.out v v0 r3'
            have hm : wr.cell? ⟨go, v.toNat, none⟩ = some (.int .i64 (rd m v)) := hm0
            clear hm0
            have HP := Kd.R_putg HO.out v (wrap64 (i + 1))
            have hgo := HO.out.1 _ rfl
            have GO := Aside0.mk gb
            have v1' := eq_true r3'
            clear r1 r2 r3 r3' v0 e2 hl1 hl2 hl3 gb gl HG
            by_cases r4 : rd m v > 0
            ·rw [if_pos r4] at H; obtain rfl := Option.some.inj H
             have r4b := decide_eq_true r4
             have r4c : decide (0 < rd m v) = true := decide_eq_true r4
             clear r4 HP; go_wp2; go_ret
             exact ⟨rfl, (by repeat (first | (with_reducible first | exact HB.out | apply below_alloc | apply pw_below_drewN | apply below_drew1) | exact HB.out))⟩
            ·rw [if_neg r4] at H
             have r4b := decide_eq_false r4
             have r4c : decide (0 < rd m v) = false := decide_eq_false r4
             have H' := Aside0.mk H; clear H r4
             go_wp2_with ((with_reducible refine gate_store (t := 3) (p := 47) rfl ?_); go_must (refine store_event (t := 3) (p := 47) (v := ?vo_) (w1 := (wr.setCell ⟨go, v.toNat, none⟩ (.int .i64 (wrap64 (i + 1))))) ?hg ?ho ?hn ?hr ?_; (case ho => rfl); (case hg => rfl); (case hn => rfl); (case hr => first | (go_simp; done) | (go_simp; rfl)); intro w45 hw; have n0_ := Aside0.mk (show Kd.R (Kd.int .i64) 3 w45 w.heap.size (fun k_ => True ∧ k_ ≠ g) (.slice (some ⟨go, 0, none⟩) y.length cv) (m.set v.toNat (wrap64 (i + 1))) from (by rw [hw]; exact HP.1)); have n1_ := Aside0.mk (show w45.heap[g]? = some (.cells #[.slice (some ⟨go, 0, none⟩) y.length cv] 31 (0, 0)) from (by rw [hw]; exact blk_far (p := ⟨go, v.toNat, none⟩) BK.out (fun e_ => hgo.2 e_.symm) _)); have n2_ := Aside0.mk (show Below w.heap.size w w45 from (by rw [hw]; exact below_set HB.out GO.out)); clear HO BK HB HP hcz hm hf hw; have HO := n0_; have BK := n1_; have HB := n2_; clear n0_ n1_ n2_))
             go_roundg k1
             case measure => have := HK1.out; omega
             case rel => exact ⟨wrap64 (i + 1), m.set v.toNat (wrap64 (i + 1)), (by first | rfl | (simp; done)), H', ⟨by have := HK1.out; omega⟩, ⟨by (with_reducible repeat (first | apply Kd.R_alloc | apply Kd.R_drewN | apply Kd.R_drew)); exact HO.out⟩, ⟨BK.out⟩, ⟨(by repeat (first | (with_reducible first | exact HB.out | apply below_alloc | apply pw_below_drewN | apply below_drew1) | exact HB.out))⟩⟩
           ·rw [if_neg r3] at H; cases H
        ·rw [if_neg q2] at H; cases H
       ·rw [if_neg q1] at H
        have q1b := decide_eq_false q1
        clear q1
        obtain ⟨x, hx, H⟩ := Option.bind_eq_some_iff.mp H
        obtain rfl := Option.some.inj H
        obtain ⟨hl1, hl2, hl3⟩ := Kd.R_reads' HO.out
        have HX := Aside0.mk hx
        have hclo : ∀ (a b : Int) (t : Bool) (W : World), Below wr.heap.size wr W → gfL m a b = some t → Calls Try.prog 39 #[.agg #[.int .i64 a, .int .i64 b], .pointer (some ⟨g, 0, none⟩)] W fun e w' => e = .returned (.bool t) ∧ Below W.heap.size W w' := by
         intro a b t W hbW hgf
         unfold gfL at hgf
         split at hgf
         ·rename_i hc
          obtain rfl := Option.some.inj hgf
          have hgW : W.heap[g]? = some (.cells #[.slice Av m.length cv] 31 (0, 0)) := by
           rw [← hl1]; exact (hbW.block g (blk_lt BK.out)).trans BK.out
          exact clo39 a b g Av cv m W hgW (Kd.C_below hl3 hbW) hc.1 hc.2.1 hc.2.2.1 hc.2.2.2
         ·cases hgf
        have HCL := Aside0.mk (contains39 (gfL m) (.pointer (some ⟨g, 0, none⟩)) k1 A1 c1 l x wr (Kd.C_below HR1.out HB.out) hclo hx)
        have hmf : ∀ (fn : Fn) (first cap : Array Value) (w : World), (Instr.makeFunc fn first cap).run Try.prog w = .ok (.func fn first cap) w := fun _ _ _ _ => rfl
        clear hclo hl1 hl2 hl3 hx
        go_wp2_with (go_at_call 38; go_must (refine HCL.out.mono ?_; rintro e w' ⟨rfl, hb⟩; have n_ := Aside0.mk (below_step HB.out hb); clear HB hb; have HB := n_; clear n_))
        go_ret
        exact ⟨by first | rfl | (simp; done), (by repeat (first | (with_reducible first | exact HB.out | apply below_alloc | apply pw_below_drewN | apply below_drew1) | exact HB.out))⟩
    ·rw [if_neg z3] at H; cases H
   ·rw [if_neg z2] at H; cases H
  ·rw [if_neg z1] at H; obtain rfl := Option.some.inj H
   have z1b : ((o.length : Int) != n) = true := bne_iff_ne.mpr z1
   have z1c : ((o.length : Int) == n) = false := beq_eq_false_iff_ne.mpr z1
   go_enter Try.func18, Try.ntmps18
   go_wp2_with (go_at_call 20; go_must ((with_reducible refine (precedence_Valid.calls k n _ _ l 0 _ ?s1 ?s2 HE.out).mono ?_); (case s1 => exact HR1.out); (case s2 => exact HC1.out); rintro e w8 ⟨rfl, hb⟩; have n_ := Aside0.mk hb; clear HB hb; have HB := n_; clear n_))
   go_ret
   exact ⟨rfl, by exact HB.out⟩
 ·rw [if_neg z] at H; obtain rfl := Option.some.inj H
  have zb : (e != 0) = true := bne_iff_ne.mpr z
  have zc : (e == 0) = false := beq_eq_false_iff_ne.mpr z
  go_enter Try.func18, Try.ntmps18
  go_wp2_with (go_at_call 20; go_must ((with_reducible refine (precedence_Valid.calls k n _ _ l e _ ?s1 ?s2 HE.out).mono ?_); (case s1 => exact HR1.out); (case s2 => exact HC1.out); rintro e w8 ⟨rfl, hb⟩; have n_ := Aside0.mk hb; clear HB hb; have HB := n_; clear n_))
  go_ret
  exact ⟨rfl, by exact HB.out⟩
theorem idx.mono (gf : Int → Int → Option Bool) (l : List S47) : ∀ k i, LeO (idx.l0 gf l k i) (idx.l0 gf l (k + 1) i) := by
 intro k
 induction k with
 | zero => intro i; exact LeO.none _
 | succ k ih =>
  intro i
  unfold idx.l0
  refine LeO.ite (LeO.ite (LeO.bind (LeO.refl _) (fun t => LeO.ite (LeO.refl _) (ih _))) (LeO.none _)) (LeO.refl _)
theorem lin.mono (n : Int) (l : List S47) (o : List Int) : ∀ k i m, LeO (lin.l0 n l o k i m) (lin.l0 n l o (k + 1) i m) := by
 intro k
 induction k with
 | zero => intro i m; exact LeO.none _
 | succ k ih =>
  intro i m
  unfold lin.l0
  refine LeO.ite (LeO.ite (LeO.ite (LeO.refl _) (LeO.ite (LeO.refl _) (LeO.ite (LeO.ite (LeO.refl _) (ih _ _)) (LeO.none _)))) (LeO.none _)) (LeO.bind (idx.mono _ _ _ _) (fun r => LeO.refl _))
theorem precedence_Linear.mono : ∀ a0 a1 a2 k, LeO (precedence_Linear.f k a0 a1 a2) (precedence_Linear.f (k + 1) a0 a1 a2) := by
 intro a0 a1 a2 k
 unfold precedence_Linear.f
 exact LeO.bind (precedence_Valid.mono _ _ _) (fun t => LeO.ite (LeO.ite (LeO.ite (LeO.ite (lin.mono _ _ _ _ _ _) (LeO.none _)) (LeO.none _)) (LeO.refl _)) (LeO.refl _))
end Go.Proofs.Ytbbkclcfmcjlgaa.P

/- What the two functions Linear come to. Plain numbers and lists. -/

namespace Go.Proofs.Ytbbkclcfmcjlgaa.B
open Go.RowKit Go.Proofs.Ytbbkclcfmcjlgaa.P Go.Proofs.Ytbbkclcfmcjlgaa.Gr Go.Proofs.YtbbkclcfmcjlgaaW.PrintWords Go.Proofs.YtbbkclcfmcjlgaaW.PrintLast Go.Proofs.YtbbkclcfmcjlgaaW.PrintMore
set_option linter.unusedVariables false
set_option linter.unusedSimpArgs false

def LinP (n : Int) (l : List S47) (o : List Int) : Prop := vErr n l = 0 ∧ (o.length : Int) = n ∧ Lst n l o
theorem rd_get {o : List Int} {j : Int} (j0 : 0 ≤ j) (j1 : j < (o.length : Int)) : o[j.toNat]? = some (rd o j) := by
  unfold rd
  rw [List.getElem?_eq_getElem (by omega), List.getD_eq_getElem?_getD, List.getElem?_eq_getElem (by omega)]
  rfl
theorem mem_take_rd {o : List Int} {i : Nat} {x : Int} (h : x ∈ o.take i) : ∃ j : Int, 0 ≤ j ∧ j < i ∧ j < (o.length : Int) ∧ rd o j = x := by
  obtain ⟨q, hq⟩ := List.getElem?_of_mem h
  rw [List.getElem?_take] at hq
  split at hq
  · rename_i hqi
    obtain ⟨hl, he⟩ := List.getElem?_eq_some_iff.1 hq
    refine ⟨q, by omega, by omega, by omega, ?_⟩
    unfold rd
    rw [show (q : Int).toNat = q by omega, List.getD_eq_getElem?_getD, hq]; rfl
  · cases hq
theorem rd_inj {o : List Int} (hd : o.Nodup) {i j : Int} (i0 : 0 ≤ i) (i1 : i < (o.length : Int)) (j0 : 0 ≤ j) (j1 : j < (o.length : Int)) (e : rd o i = rd o j) : i = j := by
  have h1 := rd_get i0 i1
  have h2 := rd_get j0 j1
  rw [← e] at h2
  obtain ⟨a1, a2⟩ := List.getElem?_eq_some_iff.1 h1
  obtain ⟨b1, b2⟩ := List.getElem?_eq_some_iff.1 h2
  have := (List.getElem_inj (xs := o) (h₀ := a1) (h₁ := b1) hd).1 (a2.trans b2.symm)
  omega
theorem Lst.take {n : Int} {l : List S47} {o : List Int} (h : Lst n l o) (i : Nat) : Lst n l (o.take i) := by
  refine ⟨h.1.sublist (List.take_sublist _ _), fun x hx => h.2.1 x (List.mem_of_mem_take hx), fun k x hx j hj => ?_⟩
  rw [List.getElem?_take] at hx
  split at hx
  · rename_i hk
    rw [List.take_take, Nat.min_eq_left (by omega)]
    exact h.2.2 k x hx j hj
  · cases hx
theorem Lst.can {n : Int} {l : List S47} {o : List Int} (h : Lst n l o) (j : Int) (j0 : 0 ≤ j) (j1 : j < (o.length : Int)) : Can n l (o.take j.toNat) (rd o j) := by
  refine ⟨h.2.1 _ (rd_mem o j j0 j1), fun hm => ?_, (rdy_iff _ _ _).2 (fun a ha => h.2.2 j.toNat _ (rd_get j0 j1) a ha)⟩
  obtain ⟨q, q0, q1, q2, e⟩ := mem_take_rd hm
  have := rd_inj h.1 q0 q2 j0 j1 e
  omega
theorem rlinear_l0 {n : Int} {l : List S47} (hn : 0 ≤ n ∧ n ≤ 200) (hl : l.length ≤ 2000) (o : List Int) (ho : (o.length : Int) = n) (d : Nat) : ∀ j : Int, 0 ≤ j → j + d = n → Lst n l (o.take j.toNat) → EvP (fun f => swarfref29_Linear.l0 f n l o j) (fun r => r = true ↔ Lst n l o) := by
  induction d with
  | zero =>
    intro j j0 hj h
    rw [show o.take j.toNat = o from List.take_of_length_le (by omega)] at h
    exact EvP.stop true (fun f => by simp only [swarfref29_Linear.l0]; rw [if_neg (by omega)]) ⟨fun _ => h, fun _ => rfl⟩
  | succ d ih =>
    intro j j0 hj h
    have hw := wrap_succ j j0 (by omega)
    have htl : (o.take j.toNat).length ≤ 200 := by rw [List.length_take]; omega
    have hno : ∀ {P : Prop}, (Can n l (o.take j.toNat) (rd o j) → False) → (false = true ↔ Lst n l o) := fun hx => ⟨(fun e => by cases e), (fun hL => absurd (hL.can j j0 (by omega)) (fun hc => hx hc))⟩
    by_cases c1 : rd o j < 0
    · refine EvP.stop false (fun f => ?_) (hno (P := True) (fun hc => by have := hc.1.1; omega))
      simp only [swarfref29_Linear.l0]
      rw [if_pos (by omega), if_pos j0, if_pos (by omega), if_pos c1]
    · by_cases c2 : rd o j ≥ n
      · refine EvP.stop false (fun f => ?_) (hno (P := True) (fun hc => by have := hc.1.2; omega))
        simp only [swarfref29_Linear.l0]
        rw [if_pos (by omega), if_pos j0, if_pos (by omega), if_neg c1, if_pos c2]
      · refine EvP.step (f := fun f => (swarfref29_in.f f (o.take j.toNat) (rd o j)).bind fun t247 => (if t247 = true then (some false) else ((swarfref29_ready.f f l (o.take j.toNat) (rd o j)).bind fun t250 => (if t250 = true then (swarfref29_Linear.l0 f n l o (wrap64 (j + 1))) else (some false))))) (fun f => ?_) ?_
        · simp only [swarfref29_Linear.l0]
          rw [if_pos (by omega), if_pos j0, if_pos (by omega), if_neg c1, if_neg c2, if_pos (by omega)]
        · refine EvP.bind (in_ev _ (by omega) _) ?_
          by_cases hm : rd o j ∈ o.take j.toNat
          · simp only [decide_eq_true hm, if_true]
            exact ⟨_, Ev.now _, hno (P := True) (fun hc => hc.2.1 hm)⟩
          · simp only [decide_eq_false hm, Bool.false_eq_true, if_false]
            refine EvP.bind (ready_ev l (by omega) _ (by omega) _) ?_
            by_cases hr : rdy l (o.take j.toNat) (rd o j) = true
            · simp only [hr, if_true, hw]
              refine ih (j + 1) (by omega) (by omega) ?_
              rw [take_rd o j j0 (by omega)]
              exact h.snoc ⟨⟨by omega, by omega⟩, hm, hr⟩
            · simp only [show rdy l (o.take j.toNat) (rd o j) = false by simpa using hr, Bool.false_eq_true, if_false]
              exact ⟨_, Ev.now _, hno (P := True) (fun hc => hr hc.2.2)⟩
theorem rlinear_ev (n : Int) (l : List S47) (o : List Int) (hl : l.length ≤ 100000000000000) : EvP (fun f => swarfref29_Linear.f f n l o) (fun r => r = true ↔ LinP n l o) := by
  unfold swarfref29_Linear.f
  refine EvP.bind (rvalid_ev n l hl) ?_
  by_cases z : vErr n l = 0
  · simp only [if_pos z]
    obtain ⟨k1, k2, k3, k4⟩ := vErr_zero z
    by_cases e : (o.length : Int) = n
    · rw [show ((o.length : Int) != n) = false from bne_eq_false_iff_eq.2 e]
      refine EvP.step (f := fun f => swarfref29_Linear.l0 f n l o 0) (fun f => by simp only [swarfref29_Linear.j0]; rw [if_neg (by decide)]) ?_
      refine (rlinear_l0 ⟨k1, k2⟩ k3 o e n.toNat 0 (by omega) (by omega) (by rw [show (0 : Int).toNat = 0 from rfl, List.take_zero]; exact Lst.nil n l)).mono (fun r hr => ?_)
      rw [hr]
      exact ⟨fun h => ⟨z, e, h⟩, fun h => h.2.2⟩
    · rw [show ((o.length : Int) != n) = true from bne_iff_ne.2 e]
      exact EvP.stop false (fun f => by simp [swarfref29_Linear.j0]) ⟨(fun h => by cases h), (fun h => absurd h.2.1 e)⟩
  · simp only [if_neg z]
    exact EvP.stop false (fun f => by simp [swarfref29_Linear.j0]) ⟨(fun h => by cases h), (fun h => absurd h.1 z)⟩

/-! ### The program's -/
end Go.Proofs.Ytbbkclcfmcjlgaa.B

/- PrecedenceOrder: the printed law answers true. -/

namespace Go.Proofs.Ytbbkclcfmcjlgaa.B
open Go.RowKit Go.Proofs.Ytbbkclcfmcjlgaa.P Go.Proofs.Ytbbkclcfmcjlgaa.Gr Go.Proofs.YtbbkclcfmcjlgaaW.PrintWords Go.Proofs.YtbbkclcfmcjlgaaW.PrintLast Go.Proofs.YtbbkclcfmcjlgaaW.PrintMore
set_option linter.unusedVariables false
set_option linter.unusedSimpArgs false
theorem EvP.ev {α : Type} {g : Nat → Option α} {x : α} (h : EvP g (fun r => r = x)) : Ev g x := by
  obtain ⟨r, h1, rfl⟩ := h
  exact h1
theorem OrdOk.err {n : Int} {l : List S47} {t : List Int × Int} (h : OrdOk n l t) (h0 : t.2 = 0) : vErr n l = 0 ∧ Acyc (Rl l) ∧ Greedy n l t.1 ∧ (t.1.length : Int) = n := by
  rcases h with ⟨h1, rfl⟩ | ⟨h1, h2, rfl⟩ | ⟨h1, h2, h3, h4, h5⟩
  · exact absurd h0 h1
  · cases h0
  · exact ⟨h1, h2, h4, h5⟩
theorem OrdOk.len {n : Int} {l : List S47} {t : List Int × Int} (h : OrdOk n l t) : t.1.length ≤ 200 := by
  rcases h with ⟨h1, rfl⟩ | ⟨h1, h2, rfl⟩ | ⟨h1, h2, h3, h4, h5⟩
  · simp
  · simp
  · have := vErr_zero h1; omega
theorem olaw_j0 (n : Int) (l : List S47) (b : Bool) (h : b = false → l.length ≤ 60) : EvP (fun k => swarflaw29_PrecedenceOrder.j0 k n l b) (fun r => r = true) := by
  cases b with
  | true =>
    refine EvP.step (f := fun k => (swarflaw29_awake.f k).bind fun t => some t) (fun k => ?_) (EvP.bind awake_ev ⟨true, Ev.now _, rfl⟩)
    simp only [swarflaw29_PrecedenceOrder.j0]
    rw [if_pos trivial]
  | false =>
    have hl := h rfl
    refine EvP.step (f := fun k => (precedence_Order.f k n l).bind fun bt339 => ((swarfref29_Order.f k n l).bind fun bt343 => (if bt339.2 = bt343.2 then ((swarfref29_Ints.f k bt339.1 bt343.1).bind fun t347 => (if t347 = true then (if bt339.2 = 0 then ((swarfref29_Linear.f k n l bt339.1).bind fun t348 => (some t348)) else (some true)) else (some false))) else (some false)))) (fun k => ?_) ?_
    · simp only [swarflaw29_PrecedenceOrder.j0]
      rw [if_neg (by decide), cp_eq l (by omega)]
      rfl
    · refine EvP.bindP (order_ev n l (by omega)) (fun t ht => EvP.bindP (rorder_ev n l (by omega)) (fun u hu => ?_))
      have e := ht.uniq hu
      subst e
      simp only [if_true]
      refine EvP.bind (ints_ev t.1 t.1 (by have := ht.len; omega)) ?_
      simp only [decide_true, if_true]
      by_cases z : t.2 = 0
      · simp only [if_pos z]
        obtain ⟨h1, h2, h3, h4⟩ := ht.err z
        refine EvP.bindP (rlinear_ev n l t.1 (by omega)) (fun r hr => ⟨r, Ev.now _, hr.2 ⟨h1, h4, h3.lst⟩⟩)
      · simp only [if_neg z]
        exact ⟨true, Ev.now _, rfl⟩
theorem PrecedenceOrder (n : Int) (l : List S47) : ∃ k, swarflaw29_PrecedenceOrder.f k n l = some true := by
  refine Ev.rounds (g := fun k => swarflaw29_PrecedenceOrder.f k n l) (EvP.ev ?_)
  unfold swarflaw29_PrecedenceOrder.f
  refine EvP.bind awake_ev ?_
  simp only [if_true]
  refine EvP.bind (few_ev n 30 l) ?_
  refine olaw_j0 n l _ (fun h => ?_)
  have h2 : fewB n 30 l = true := by simpa using h
  unfold fewB at h2
  by_cases c : (l.length : Int) ≤ 60
  · omega
  · rw [if_neg c] at h2; cases h2
end Go.Proofs.Ytbbkclcfmcjlgaa.B
