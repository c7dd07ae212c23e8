import Derived.Test.YtbbkclcfmcjlgaaT9M31
import Derived.Test.YtbbkclcfmcjlgaaT9M21
import Derived.Test.YtbbkclcfmcjlgaaT9M30
import Derived.Test.YtbbkclcfmcjlgaaT9M29
import Derived.Test.YtbbkclcfmcjlgaaT9M24


namespace Go.Proofs.Ytbbkclcfmcjlgaa.P
open Go.RowKit Go.Proofs.YtbbkclcfmcjlgaaW.PrintWords Go.Proofs.YtbbkclcfmcjlgaaW.PrintLast Go.Proofs.YtbbkclcfmcjlgaaW.PrintMore
set_option linter.unusedVariables false
set_option linter.unusedSimpArgs false

def gfL (m : List Int) (x y : Int) : Option Bool := if 0 ≤ x ∧ x < m.length ∧ 0 ≤ y ∧ y < m.length then some (decide (rd m x > rd m y)) else none
def lin.l0 (n : Int) (l : List S47) (o : List Int) : Nat → Int → List Int → Option Bool
 | 0, _, _ => none
 | k + 1, i, m => if i < (o.length : Int) then (if 0 ≤ i then (if rd o i < 0 then some false else if rd o i ≥ n then some false else if rd o i < (m.length : Int) then (if rd m (rd o i) > 0 then some false else lin.l0 n l o k (wrap64 (i + 1)) (m.set (rd o i).toNat (wrap64 (i + 1)))) else none) else none) else (idx.l0 (gfL m) l k 0).bind fun r => some (!(decide (r ≥ 0)))
def precedence_Linear.f (k : Nat) (n : Int) (l : List S47) (o : List Int) : Option Bool := (precedence_Valid.f k n l).bind fun e => if e = 0 then (if (o.length : Int) = n then (if 0 ≤ n then (if n.toNat ≤ 35184372088832 then lin.l0 n l o k 0 (List.replicate n.toNat 0) else none) else none) else some false) else some false
set_option maxHeartbeats 8000000 in
set_option maxRecDepth 100000 in
theorem precedence_Linear.calls (k : Nat) (n : Int) (A1 : Option Addr) (c1 : Nat) (l : List S47) (A2 : Option Addr) (c2 : Nat) (o : List Int) (r : Bool) (w : World) (hr1 : Kd.C k47 w A1 l.length l) (hc1 : l.length ≤ c1) (hr2 : Kd.C (Kd.int .i64) w A2 o.length o) (hc2 : o.length ≤ c2) (h : precedence_Linear.f k n l o = some r) :
  Calls Try.prog 18 #[.int .i64 n, .slice A1 l.length c1, .slice A2 o.length c2] w fun e w' => e = .returned (.bool r) ∧ Below w.heap.size w w' := by
 have HR1 := aK hr1
 have HC1 := aK hc1
 have HR2 := aK hr2
 have HC2 := aK hc2
 clear hr1 hc1 hr2 hc2
 unfold precedence_Linear.f at h
 obtain ⟨e, he, H⟩ := oB_ h
 have HE := aK he
 clear h he
 have HB := aK (Below.refl w.heap.size w)
 by_cases z : e = 0
 ·rw [if_pos z] at H; subst z
  by_cases z1 : (o.length : Int) = n
  ·rw [if_pos z1] at H
   have z1b : ((o.length : Int) != n) = false := bne_eq_false_iff_eq.mpr z1
   have z1c : ((o.length : Int) == n) = true := beq_iff_eq.mpr z1
   by_cases z2 : 0 ≤ n
   ·rw [if_pos z2] at H
    by_cases z3 : n.toNat ≤ 35184372088832
    ·rw [if_pos z3] at H
     obtain ⟨y, hy⟩ : ∃ y : List Int, y = List.replicate n.toNat 0 := ⟨_, rfl⟩
     rw [← hy] at H; have NY := aK hy; clear hy; have H' := aK H; have Z2 := aK z2; have Z3 := aK z3
     have z2' := eq_true z2
     clear H z1 z2 z3
     go_enter Try.func18, Try.ntmps18
     go_wp2_with (first | (go_at_call 20; go_must ((with_reducible refine (precedence_Valid.calls k n _ _ l 0 _ ?s1 ?s2 HE.out).mono ?_); (case s1 => exact HR1.out); (case s2 => exact HC1.out); rintro e w8 ⟨rfl, hb⟩; have n_ := aK hb; clear HB hb; have HB := n_; clear n_)) | ((with_reducible refine gate_dst (N := 21) rfl ?_); go_must (refine Kd.R_make (Kd.int .i64) _ 3 rfl (N := 21) rfl 31 _ _ rfl n rfl rfl Try.underlying31 (.int .i64 0) 8 info3 rfl (by decide) (by omega) 0 (ok := fun _ => True) (okp := fun _ => True) rfl (fun _ hk => hk) trivial Z2.out (Nat.le_trans (Nat.mul_le_mul_right _ Z3.out) (by omega)) (Below.refl _ _) (Nat.le_refl _) ?_; intro va w9 ho hb hg_ hnew_; clear hg_ hnew_; rw [← NY.out] at ho; have n0_ := aK (Kd.R_lower ho (bZ_ (HB.out))); have n1_ := aK (bT_ HB.out hb); clear HB ho hb; have HO := n0_; have HB := n1_; clear n0_ n1_)) | ((with_reducible refine gate_dst (N := 7) rfl ?_); go_must (refine box_event ?hg (N := 7) ?hd (cs := #[.slice none 0 0]) (t := 31) ?hr ?_; (case hd => rfl); (case hg => rfl); (case hr => first | (go_simp; done) | (go_simp; rfl)); intro g hg w10 hbox hb; have n0_ := aK (Kd.R_types (Kd.R_below HO.out hb) hbox (by decide)); have n1_ := aK (bT_ HB.out hb); have GB := aK (by rw [hg]; exact bZ_ HB.out : w.heap.size ≤ g); have BK := aK hbox; have hfz := blk_frozen hbox 0; have hzz : w10.cell? ⟨g, 0, none⟩ = some (.slice none 0 0) := (blk_cell hbox 0).trans rfl; clear HO HB hb hbox hg; have HO := n0_; have HB := n1_; clear n0_ n1_; obtain ⟨Av, cv, ev⟩ := Kd.R_slice HO.out; subst ev)))
     go_loopg [24] k (fun kq v24 w' => ∃ (i : Int) (m : List Int), v24 = .int .i64 i ∧ Aside0 (lin.l0 n l o kq i m = some r) ∧ Aside0 (kq ≤ k) ∧ Aside0 (Kd.R (Kd.int .i64) 3 w' w.heap.size (fun k_ => True ∧ k_ ≠ g) (.slice Av y.length cv) m) ∧ Aside0 (w'.heap[g]? = some (.cells #[.slice Av y.length cv] 31 (0, 0))) ∧ Aside0 (Below w.heap.size w w'))
     case atStart => exact ⟨0, y, rfl, H', ⟨Nat.le_refl _⟩, ⟨Kd.R_far (p := ⟨g, 0, none⟩) HO.out (fun _ hk => hk.2) _⟩, ⟨blk_put (cs := #[.slice none 0 0]) BK.out 0 _ rfl⟩, ⟨below_set HB.out GB.out⟩⟩
     case round =>
      clear H' HO BK HB hfz hzz
      obtain ⟨i, m, rfl, HA, HK1, HO, BK, HB⟩ := hrel
      cases gk with
      | zero => exact absurd HA.out (by simp [lin.l0])
      | succ k1 =>
       have H := HA.out
       clear HA
       simp only [lin.l0] at H
       have hcz : wr.cell? ⟨g, 0, none⟩ = some (.slice Av y.length cv) := (blk_cell BK.out 0).trans rfl
       by_cases q1 : i < (o.length : Int)
       ·rw [if_pos q1] at H
        by_cases q2 : 0 ≤ i
        ·rw [if_pos q2] at H
         obtain ⟨ad, e, hx⟩ := Kd.at_int HR2.out i q2 q1
         cases e
         replace hx := (HB.out.cell (World.block_lt_of_cell? w _ hx)).trans hx
         generalize rd o i = v at H hx
         have q1b := decide_eq_true q1
         have q1' := eq_true q1
         have q2' := eq_true q2
         clear q1 q2
         by_cases r1 : v < 0
         ·rw [if_pos r1] at H; obtain rfl := Option.some.inj H
          have r1b := decide_eq_true r1
          clear r1; go_wp2; go_ret
          exact ⟨rfl, (by repeat (first | (with_reducible first | exact HB.out | apply bA_ | apply bN_ | apply bD_) | exact HB.out))⟩
         ·rw [if_neg r1] at H
          have r1b := decide_eq_false r1
          have r1c := eq_true (show 0 ≤ v by omega)
          by_cases r2 : v ≥ n
          ·rw [if_pos r2] at H; obtain rfl := Option.some.inj H
           have r2b := decide_eq_true r2
           have r2c : decide (n ≤ v) = true := decide_eq_true r2
           clear r1 r2; go_wp2; go_ret
           exact ⟨rfl, (by repeat (first | (with_reducible first | exact HB.out | apply bA_ | apply bN_ | apply bD_) | exact HB.out))⟩
          ·rw [if_neg r2] at H
           have r2b := decide_eq_false r2
           have r2c : decide (n ≤ v) = false := decide_eq_false r2
           by_cases r3 : v < (m.length : Int)
           ·rw [if_pos r3] at H
            obtain ⟨hl1, hl2, hl3⟩ := Kd.R_reads' HO.out
            have r3' : v < (y.length : Int) := by omega
            have v0 : 0 ≤ v := by omega
            obtain ⟨go, co, eo, gb, gl, cl, HG⟩ := Kd.R_form HO.out (by omega)
            injection eo with e1 e2 e3
            subst e1; subst e3
            obtain ⟨hm0, hf⟩ := Kd.R_celln 0 HO.out v v0 r3'
            have hm : wr.cell? ⟨go, v.toNat, none⟩ = some (.int .i64 (rd m v)) := hm0
            clear hm0
            have HP := Kd.R_putg HO.out v (wrap64 (i + 1))
            have hgo := HO.out.1 _ rfl
            have GO := aK gb
            have v1' := eq_true r3'
            clear r1 r2 r3 r3' v0 e2 hl1 hl2 hl3 gb gl HG
            by_cases r4 : rd m v > 0
            ·rw [if_pos r4] at H; obtain rfl := Option.some.inj H
             have r4b := decide_eq_true r4
             have r4c : decide (0 < rd m v) = true := decide_eq_true r4
             clear r4 HP; go_wp2; go_ret
             exact ⟨rfl, (by repeat (first | (with_reducible first | exact HB.out | apply bA_ | apply bN_ | apply bD_) | exact HB.out))⟩
            ·rw [if_neg r4] at H
             have r4b := decide_eq_false r4
             have r4c : decide (0 < rd m v) = false := decide_eq_false r4
             have H' := aK H; clear H r4
             go_wp2_with ((with_reducible refine gate_store (t := 3) (p := 47) rfl ?_); go_must (refine store_event (t := 3) (p := 47) (v := ?vo_) (w1 := (wr.setCell ⟨go, v.toNat, none⟩ (.int .i64 (wrap64 (i + 1))))) ?hg ?ho ?hn ?hr ?_; (case ho => rfl); (case hg => rfl); (case hn => rfl); (case hr => first | (go_simp; done) | (go_simp; rfl)); intro w45 hw; have n0_ := aK (show Kd.R (Kd.int .i64) 3 w45 w.heap.size (fun k_ => True ∧ k_ ≠ g) (.slice (some ⟨go, 0, none⟩) y.length cv) (m.set v.toNat (wrap64 (i + 1))) from (by rw [hw]; exact HP.1)); have n1_ := aK (show w45.heap[g]? = some (.cells #[.slice (some ⟨go, 0, none⟩) y.length cv] 31 (0, 0)) from (by rw [hw]; exact blk_far (p := ⟨go, v.toNat, none⟩) BK.out (fun e_ => hgo.2 e_.symm) _)); have n2_ := aK (show Below w.heap.size w w45 from (by rw [hw]; exact below_set HB.out GO.out)); clear HO BK HB HP hcz hm hf hw; have HO := n0_; have BK := n1_; have HB := n2_; clear n0_ n1_ n2_))
             go_roundg k1
             case measure => have := HK1.out; omega
             case rel => exact ⟨wrap64 (i + 1), m.set v.toNat (wrap64 (i + 1)), (by first | rfl | (simp; done)), H', ⟨by have := HK1.out; omega⟩, ⟨by (with_reducible repeat (first | apply Kd.R_alloc | apply Kd.R_drewN | apply Kd.R_drew)); exact HO.out⟩, ⟨BK.out⟩, ⟨(by repeat (first | (with_reducible first | exact HB.out | apply bA_ | apply bN_ | apply bD_) | exact HB.out))⟩⟩
           ·rw [if_neg r3] at H; cases H
        ·rw [if_neg q2] at H; cases H
       ·rw [if_neg q1] at H
        have q1b := decide_eq_false q1
        clear q1
        obtain ⟨x, hx, H⟩ := oB_ H
        obtain rfl := Option.some.inj H
        obtain ⟨hl1, hl2, hl3⟩ := Kd.R_reads' HO.out
        have HX := aK hx
        have hclo : ∀ (a b : Int) (t : Bool) (W : World), Below wr.heap.size wr W → gfL m a b = some t → Calls Try.prog 39 #[.agg #[.int .i64 a, .int .i64 b], .pointer (some ⟨g, 0, none⟩)] W fun e w' => e = .returned (.bool t) ∧ Below W.heap.size W w' := by
         intro a b t W hbW hgf
         unfold gfL at hgf
         split at hgf
         ·rename_i hc
          obtain rfl := Option.some.inj hgf
          have hgW : W.heap[g]? = some (.cells #[.slice Av m.length cv] 31 (0, 0)) := by
           rw [← hl1]; exact (hbW.block g (blk_lt BK.out)).trans BK.out
          exact clo39 a b g Av cv m W hgW (Kd.C_below hl3 hbW) hc.1 hc.2.1 hc.2.2.1 hc.2.2.2
         ·cases hgf
        have HCL := aK (contains39 (gfL m) (.pointer (some ⟨g, 0, none⟩)) k1 A1 c1 l x wr (Kd.C_below HR1.out HB.out) hclo hx)
        have hmf : ∀ (fn : Fn) (first cap : Array Value) (w : World), (Instr.makeFunc fn first cap).run Try.prog w = .ok (.func fn first cap) w := fun _ _ _ _ => rfl
        clear hclo hl1 hl2 hl3 hx
        go_wp2_with (go_at_call 38; go_must (refine HCL.out.mono ?_; rintro e w' ⟨rfl, hb⟩; have n_ := aK (bT_ HB.out hb); clear HB hb; have HB := n_; clear n_))
        go_ret
        exact ⟨by first | rfl | (simp; done), (by repeat (first | (with_reducible first | exact HB.out | apply bA_ | apply bN_ | apply bD_) | exact HB.out))⟩
    ·rw [if_neg z3] at H; cases H
   ·rw [if_neg z2] at H; cases H
  ·rw [if_neg z1] at H; obtain rfl := Option.some.inj H
   have z1b : ((o.length : Int) != n) = true := bne_iff_ne.mpr z1
   have z1c : ((o.length : Int) == n) = false := beq_eq_false_iff_ne.mpr z1
   go_enter Try.func18, Try.ntmps18
   go_wp2_with (go_at_call 20; go_must ((with_reducible refine (precedence_Valid.calls k n _ _ l 0 _ ?s1 ?s2 HE.out).mono ?_); (case s1 => exact HR1.out); (case s2 => exact HC1.out); rintro e w8 ⟨rfl, hb⟩; have n_ := aK hb; clear HB hb; have HB := n_; clear n_))
   go_ret
   exact ⟨rfl, by exact HB.out⟩
 ·rw [if_neg z] at H; obtain rfl := Option.some.inj H
  have zb : (e != 0) = true := bne_iff_ne.mpr z
  have zc : (e == 0) = false := beq_eq_false_iff_ne.mpr z
  go_enter Try.func18, Try.ntmps18
  go_wp2_with (go_at_call 20; go_must ((with_reducible refine (precedence_Valid.calls k n _ _ l e _ ?s1 ?s2 HE.out).mono ?_); (case s1 => exact HR1.out); (case s2 => exact HC1.out); rintro e w8 ⟨rfl, hb⟩; have n_ := aK hb; clear HB hb; have HB := n_; clear n_))
  go_ret
  exact ⟨rfl, by exact HB.out⟩
theorem idx.mono (gf : Int → Int → Option Bool) (l : List S47) : ∀ k i, LeO (idx.l0 gf l k i) (idx.l0 gf l (k + 1) i) := by
 intro k
 induction k with
 | zero => intro i; exact LeO.none _
 | succ k ih =>
  intro i
  unfold idx.l0
  refine LeO.ite (LeO.ite (LeO.bind (LeO.refl _) (fun t => LeO.ite (LeO.refl _) (ih _))) (LeO.none _)) (LeO.refl _)
theorem lin.mono (n : Int) (l : List S47) (o : List Int) : ∀ k i m, LeO (lin.l0 n l o k i m) (lin.l0 n l o (k + 1) i m) := by
 intro k
 induction k with
 | zero => intro i m; exact LeO.none _
 | succ k ih =>
  intro i m
  unfold lin.l0
  refine LeO.ite (LeO.ite (LeO.ite (LeO.refl _) (LeO.ite (LeO.refl _) (LeO.ite (LeO.ite (LeO.refl _) (ih _ _)) (LeO.none _)))) (LeO.none _)) (LeO.bind (idx.mono _ _ _ _) (fun r => LeO.refl _))
end Go.Proofs.Ytbbkclcfmcjlgaa.P



namespace Go.Proofs.Ytbbkclcfmcjlgaa.B
open Go.RowKit Go.Proofs.Ytbbkclcfmcjlgaa.P Go.Proofs.Ytbbkclcfmcjlgaa.Gr Go.Proofs.YtbbkclcfmcjlgaaW.PrintWords Go.Proofs.YtbbkclcfmcjlgaaW.PrintLast Go.Proofs.YtbbkclcfmcjlgaaW.PrintMore
set_option linter.unusedVariables false
set_option linter.unusedSimpArgs false

def LinP (n : Int) (l : List S47) (o : List Int) : Prop := vErr n l = 0 ∧ (o.length : Int) = n ∧ Lst n l o
theorem rd_get {o : List Int} {j : Int} (j0 : 0 ≤ j) (j1 : j < (o.length : Int)) : o[j.toNat]? = some (rd o j) := by
 unfold rd
 rw [List.getElem?_eq_getElem (by omega), List.getD_eq_getElem?_getD, List.getElem?_eq_getElem (by omega)]
 rfl
theorem mem_take_rd {o : List Int} {i : Nat} {x : Int} (h : x ∈ o.take i) : ∃ j : Int, 0 ≤ j ∧ j < i ∧ j < (o.length : Int) ∧ rd o j = x := by
 obtain ⟨q, hq⟩ := List.getElem?_of_mem h
 rw [List.getElem?_take] at hq
 split at hq
 ·rename_i hqi
  obtain ⟨hl, he⟩ := List.getElem?_eq_some_iff.1 hq
  refine ⟨q, by omega, by omega, by omega, ?_⟩
  unfold rd
  rw [show (q : Int).toNat = q by omega, List.getD_eq_getElem?_getD, hq]; rfl
 ·cases hq
theorem rd_inj {o : List Int} (hd : o.Nodup) {i j : Int} (i0 : 0 ≤ i) (i1 : i < (o.length : Int)) (j0 : 0 ≤ j) (j1 : j < (o.length : Int)) (e : rd o i = rd o j) : i = j := by
 have h1 := rd_get i0 i1
 have h2 := rd_get j0 j1
 rw [← e] at h2
 obtain ⟨a1, a2⟩ := List.getElem?_eq_some_iff.1 h1
 obtain ⟨b1, b2⟩ := List.getElem?_eq_some_iff.1 h2
 have := (List.getElem_inj (xs := o) (h₀ := a1) (h₁ := b1) hd).1 (a2.trans b2.symm)
 omega
theorem Lst.take {n : Int} {l : List S47} {o : List Int} (h : Lst n l o) (i : Nat) : Lst n l (o.take i) := by
 refine ⟨h.1.sublist (List.take_sublist _ _), fun x hx => h.2.1 x (List.mem_of_mem_take hx), fun k x hx j hj => ?_⟩
 rw [List.getElem?_take] at hx
 split at hx
 ·rename_i hk
  rw [List.take_take, Nat.min_eq_left (by omega)]
  exact h.2.2 k x hx j hj
 ·cases hx
theorem Lst.can {n : Int} {l : List S47} {o : List Int} (h : Lst n l o) (j : Int) (j0 : 0 ≤ j) (j1 : j < (o.length : Int)) : Can n l (o.take j.toNat) (rd o j) := by
 refine ⟨h.2.1 _ (rd_mem o j j0 j1), fun hm => ?_, (rdy_iff _ _ _).2 (fun a ha => h.2.2 j.toNat _ (rd_get j0 j1) a ha)⟩
 obtain ⟨q, q0, q1, q2, e⟩ := mem_take_rd hm
 have := rd_inj h.1 q0 q2 j0 j1 e
 omega
end Go.Proofs.Ytbbkclcfmcjlgaa.B


namespace Go.Proofs.Ytbbkclcfmcjlgaa.B
open Go.RowKit Go.Proofs.Ytbbkclcfmcjlgaa.P Go.Proofs.Ytbbkclcfmcjlgaa.Gr Go.Proofs.YtbbkclcfmcjlgaaW.PrintWords Go.Proofs.YtbbkclcfmcjlgaaW.PrintLast Go.Proofs.YtbbkclcfmcjlgaaW.PrintMore
set_option linter.unusedVariables false
set_option linter.unusedSimpArgs false

theorem index_l0 (m : List Int) (hm : m.length ≤ 100000000) (x : Int) (d : Nat) : ∀ j : Int, 0 ≤ j → j + d = m.length → (∀ i, 0 ≤ i → i < j → rd m i ≠ x) → EvP (fun f => slices_Index_int_int.l0 f m x (m.length : Int) j) (fun r => (r = -1 ∧ ∀ i, 0 ≤ i → i < (m.length : Int) → rd m i ≠ x) ∨ ((0 ≤ r ∧ r < (m.length : Int)) ∧ rd m r = x ∧ ∀ i, 0 ≤ i → i < r → rd m i ≠ x)) := by
 induction d with
 | zero =>
  intro j j0 hj h
  exact EvP.stop (-1) (fun f => by simp only [slices_Index_int_int.l0]; rw [if_neg (by omega)]) (.inl ⟨rfl, fun i i0 i1 => h i i0 (by omega)⟩)
 | succ d ih =>
  intro j j0 hj h
  have hw := wrap_succ j j0 (by omega)
  by_cases e : x = rd m j
  ·refine EvP.stop j (fun f => ?_) (.inr ⟨⟨j0, by omega⟩, e.symm, h⟩)
   simp only [slices_Index_int_int.l0]
   rw [if_pos (by omega), if_pos j0, if_pos (by omega), if_pos e]
  ·refine EvP.step (fun f => ?_) (ih (j + 1) (by omega) (by omega) (fun i i0 i1 => ?_))
   ·simp only [slices_Index_int_int.l0]
    rw [if_pos (by omega), if_pos j0, if_pos (by omega), if_neg e, hw]
   ·by_cases e2 : i = j
    ·subst e2; exact Ne.symm e
    ·exact h i i0 (by omega)
theorem index_ev (m : List Int) (hm : m.length ≤ 100000000) (x : Int) : EvP (fun f => slices_Index_int_int.f f m x) (fun r => (r = -1 ∧ ∀ i, 0 ≤ i → i < (m.length : Int) → rd m i ≠ x) ∨ ((0 ≤ r ∧ r < (m.length : Int)) ∧ rd m r = x ∧ ∀ i, 0 ≤ i → i < r → rd m i ≠ x)) := by
 unfold slices_Index_int_int.f
 exact index_l0 m hm x m.length 0 (by omega) (by omega) (fun i i0 i1 => by omega)

def cnt (l : List S47) (o : List Int) (k : Int) : Nat := l.countP fun p => p.f1 == k && !(decide (p.f0 ∈ o))
theorem cnt_nil (l : List S47) (k : Int) : cnt l [] k = (bef l k).length := by
 unfold cnt bef
 rw [List.length_map, List.countP_eq_length_filter]
 congr 1
 apply List.filter_congr
 intro p _
 simp
theorem cnt_zero (l : List S47) (o : List Int) (k : Int) : cnt l o k = 0 ↔ rdy l o k = true := by
 unfold cnt rdy
 rw [List.countP_eq_zero, List.all_eq_true]
 constructor
 ·intro h p hp
  have := h p hp
  simp only [Bool.and_eq_true, beq_iff_eq, Bool.not_eq_true', decide_eq_false_iff_not, not_and, Classical.not_not] at this
  exact decide_eq_true this
 ·intro h p hp
  have := of_decide_eq_true (h p hp)
  simp only [Bool.and_eq_true, beq_iff_eq, Bool.not_eq_true', decide_eq_false_iff_not, not_and, Classical.not_not]
  exact this
theorem cnt_cons (p : S47) (l : List S47) (o : List Int) (k : Int) : cnt (p :: l) o k = cnt l o k + if p.f1 = k ∧ ¬ p.f0 ∈ o then 1 else 0 := by
 unfold cnt
 rw [List.countP_cons]
 congr 1
 by_cases h1 : p.f1 = k <;> by_cases h2 : p.f0 ∈ o <;> simp [h1, h2]
theorem beh_cons (p : S47) (l : List S47) (i k : Int) : (beh (p :: l) i).count k = (beh l i).count k + if p.f0 = i ∧ p.f1 = k then 1 else 0 := by
 unfold beh
 rw [List.filter_cons]
 by_cases h0 : p.f0 = i
 ·rw [if_pos (show (p.f0 == i) = true by simpa using h0), List.map_cons, List.count_cons]
  by_cases h1 : p.f1 = k <;> simp [h0, h1]
 ·rw [if_neg (show ¬ (p.f0 == i) = true by simpa using h0), if_neg (fun h => h0 h.1)]; rfl
theorem cnt_snoc (l : List S47) (o : List Int) (i k : Int) (hi : ¬ i ∈ o) : cnt l o k = cnt l (o ++ [i]) k + (beh l i).count k := by
 induction l with
 | nil => rfl
 | cons p l ih =>
  rw [cnt_cons, cnt_cons, beh_cons, ih]
  by_cases h1 : p.f1 = k
  ·by_cases h0 : p.f0 = i
   ·have h2 : ¬ p.f0 ∈ o := by rw [h0]; exact hi
    have h3 : p.f0 ∈ o ++ [i] := by rw [h0]; simp
    rw [if_pos ⟨h1, h2⟩, if_neg (fun h => h.2 h3), if_pos ⟨h0, h1⟩]
    omega
   ·rw [if_neg (show ¬ (p.f0 = i ∧ p.f1 = k) from fun h => h0 h.1)]
    by_cases h2 : p.f0 ∈ o
    ·rw [if_neg (fun h => h.2 h2), if_neg (fun h => h.2 (List.mem_append_left _ h2))]
     omega
    ·rw [if_pos ⟨h1, h2⟩, if_pos ⟨h1, fun h => by simp [h2, h0] at h⟩]
     omega
  ·rw [if_neg (fun h => h1 h.1), if_neg (fun h => h1 h.1), if_neg (fun h => h1 h.2)]
   omega
theorem cnt_le (l : List S47) (o : List Int) (k : Int) : cnt l o k ≤ l.length := List.countP_le_length
def Mis (n : Int) (l : List S47) (o ms : List Int) : Prop := (ms.length : Int) = n ∧ ∀ k, 0 ≤ k → k < n → rd ms k = if k ∈ o then -1 else (cnt l o k : Int)
def Mid (n : Int) (l : List S47) (o : List Int) (i : Int) (t ms : List Int) : Prop := (ms.length : Int) = n ∧ ∀ k, 0 ≤ k → k < n → rd ms k = if k ∈ o ++ [i] then -1 else (cnt l o k : Int) - (t.count k : Int)
theorem order_l2 {n : Int} {l : List S47} (hn : 0 ≤ n ∧ n ≤ 200) (hl : l.length ≤ 2000) (hok : ∀ p ∈ l, okp n p = true) (o : List Int) (hlst : Lst n l o) (i : Int) (hi : Can n l o i) (x1 x2 : List (List Int)) (Post : List Int × Int → Prop)
  (hk : ∀ ms, Mis n l (o ++ [i]) ms → EvP (fun f => precedence_Order.l1 f n ms (o ++ [i]) x1 x2) Post) (d : Nat) : ∀ (j : Int) (ms : List Int), 0 ≤ j → j + d = (beh l i).length → Mid n l o i ((beh l i).take j.toNat) ms → EvP (fun f => precedence_Order.l2 f n ms o i (beh l i) ((beh l i).length : Int) j x1 x2) Post := by
 have hln := hlst.len hn.1
 induction d with
 | zero =>
  intro j ms j0 hj h
  rw [show (beh l i).take j.toNat = beh l i from List.take_of_length_le (by omega)] at h
  refine EvP.step (fun f => ?_) (hk ms ⟨h.1, fun k k0 k1 => ?_⟩)
  ·simp only [precedence_Order.l2]
   rw [if_neg (by omega), if_pos (by omega)]
  ·rw [h.2 k k0 k1, cnt_snoc l o i k hi.2.1]
   split
   ·rfl
   ·omega
 | succ d ih =>
  intro j ms j0 hj h
  have hlb := beh_len l i
  have hw := wrap_succ j j0 (by omega)
  have hmem := rd_mem (beh l i) j j0 (by omega)
  have ht := take_rd (beh l i) j j0 (by omega)
  have hdr := drop_rd (beh l i) j j0 (by omega)
  have hcount : ((beh l i).take (j + 1).toNat).count (rd (beh l i) j) ≤ (beh l i).count (rd (beh l i) j) := (List.take_sublist _ _).count_le _
  generalize hc : rd (beh l i) j = c at hmem ht hdr hcount
  have hR := (mem_beh l i c).1 hmem
  have hok2 := (okp_iff _ _).1 (hok _ hR)
  simp only at hok2
  have hco : ¬ c ∈ o := fun hm => by
   obtain ⟨q, hq⟩ := List.getElem?_of_mem hm
   exact hi.2.1 (List.mem_of_mem_take (hlst.2.2 q c hq i hR))
  have hci : ¬ c = i := fun e => hok2.1 e.symm
  have hv := h.2 c hok2.2.2.1 hok2.2.2.2
  rw [if_neg (by simp [hco, hci])] at hv
  have h1 := cnt_snoc l o i c hi.2.1
  have h2 := cnt_le l o c
  rw [ht, List.count_append, List.count_singleton, if_pos (by simp)] at hcount
  have hwm : wrap64 (rd ms c - 1) = rd ms c - 1 := wrap_mid _ (by omega) (by omega)
  have hlm := h.1
  refine EvP.step (fun f => ?_) (ih (j + 1) (ms.set c.toNat (rd ms c - 1)) (by omega) (by omega) ⟨by rw [List.length_set]; exact h.1, fun k k0 k1 => ?_⟩)
  ·simp only [precedence_Order.l2]
   rw [hc, if_pos (by omega), if_pos j0, if_pos (by omega), if_pos hok2.2.2.1, if_pos (by omega), hwm, hw]
  ·rw [rd_set ms c k _ hok2.2.2.1 (by omega) k0, ht, List.count_append, List.count_singleton]
   by_cases e : k = c
   ·subst e
    rw [if_pos rfl, hv, if_neg (by simp [hco, hci]), if_pos (by simp)]
    omega
   ·rw [if_neg e, h.2 k k0 k1, if_neg (show ¬ (c == k) = true by simpa using Ne.symm e)]
    rfl
theorem Mis.idx {n : Int} {l : List S47} {o ms : List Int} (h : Mis n l o ms) (k : Int) (k0 : 0 ≤ k) (k1 : k < n) : rd ms k = 0 ↔ Can n l o k := by
 rw [h.2 k k0 k1]
 by_cases hm : k ∈ o
 ·rw [if_pos hm]
  exact ⟨fun e => by omega, fun hc => absurd hm hc.2.1⟩
 ·rw [if_neg hm]
  constructor
  ·intro e
   exact ⟨⟨k0, k1⟩, hm, (cnt_zero l o k).1 (by omega)⟩
  ·intro hc
   have := (cnt_zero l o k).2 hc.2.2
   omega
theorem order_l1 {n : Int} {l : List S47} (hn : 0 ≤ n ∧ n ≤ 200) (hl : l.length ≤ 2000) (hok : ∀ p ∈ l, okp n p = true) (hz : vErr n l = 0) (x1 x2 : List (List Int)) (hx : RdOk n l (x1, x2)) (d : Nat) : ∀ (o ms : List Int), Greedy n l o → (o.length : Int) + d = n → Mis n l o ms → EvP (fun f => precedence_Order.l1 f n ms o x1 x2) (OrdOk n l) := by
 induction d with
 | zero =>
  intro o ms hg hd hm
  exact EvP.stop (o, 0) (fun f => by simp only [precedence_Order.l1]; rw [if_neg (by omega)]) (.inr (.inr ⟨hz, hg.lst.acyc hok (by simpa using hd), rfl, hg, by simpa using hd⟩))
 | succ d ih =>
  intro o ms hg hd hm
  refine EvP.step (f := fun f => (slices_Index_int_int.f f ms 0).bind fun t117 => (if t117 < 0 then (some (([] : List Int), 12)) else (if 0 ≤ t117 then (if t117 < (ms.length : Int) then (if t117 < (x2.length : Int) then (precedence_Order.l2 f n (ms.set (t117 : Int).toNat (-1)) o t117 (rd_L3 x2 t117) ((rd_L3 x2 t117).length : Int) 0 x1 x2) else (none)) else (none)) else (none)))) (fun f => ?_) ?_
  ·simp only [precedence_Order.l1]
   rw [if_pos (by omega)]
  ·have hml := hm.1
   have hx2 := hx.2.1
   simp only at hx2
   refine EvP.bindP (index_ev ms (by omega) 0) (fun r hr => ?_)
   rcases hr with ⟨rfl, hr⟩ | ⟨hr1, hr2, hr3⟩
   ·simp only [if_pos (show (-1 : Int) < 0 by omega)]
    refine ⟨_, Ev.now _, .inr (.inl ⟨hz, fun ha => ?_, rfl⟩)⟩
    obtain ⟨i, hi⟩ := can_of_acyc hok ha (show (o.length : Int) < n by omega)
    exact hr i hi.1.1.1 (by have := hi.1.1; omega) ((hm.idx i hi.1.1.1 hi.1.1.2).2 hi.1)
   ·have hc : Can n l o r := (hm.idx r hr1.1 (by omega)).1 hr2
    have hnx : Nxt n l o r := ⟨hc, fun j hj hcj => hr3 j hcj.1.1 hj ((hm.idx j hcj.1.1 hcj.1.2).2 hcj)⟩
    simp only [if_neg (show ¬ r < 0 by omega), if_pos hr1.1, if_pos hr1.2, if_pos (show r < (x2.length : Int) by omega)]
    rw [(hx.2.2 r hr1.1 (by omega)).2]
    refine order_l2 hn hl hok o hg.lst r hc x1 x2 _ (fun ms' h' => ih (o ++ [r]) ms' (hg.snoc hnx) (by rw [List.length_append]; simp; omega) h') (beh l r).length 0 _ (by omega) (by omega) ⟨by rw [List.length_set]; exact hm.1, fun k k0 k1 => ?_⟩
    rw [rd_set ms r k (-1) hr1.1 hr1.2 k0, show (0 : Int).toNat = 0 from rfl, List.take_zero, List.count_nil]
    by_cases e : k = r
    ·subst e
     rw [if_pos rfl, if_pos (by simp)]
    ·rw [if_neg e, hm.2 k k0 k1]
     by_cases hmo : k ∈ o
     ·rw [if_pos hmo, if_pos (List.mem_append_left _ hmo)]
     ·rw [if_neg hmo, if_neg (by simp [hmo, e])]
      omega
theorem order_l0 {n : Int} {l : List S47} (hn : 0 ≤ n ∧ n ≤ 200) (hl : l.length ≤ 2000) (hok : ∀ p ∈ l, okp n p = true) (hz : vErr n l = 0) (x1 x2 : List (List Int)) (hx : RdOk n l (x1, x2)) (d : Nat) : ∀ (j : Int) (ms : List Int), 0 ≤ j → j + d = n → (ms.length : Int) = n → (∀ k, 0 ≤ k → k < j → rd ms k = ((bef l k).length : Int)) → EvP (fun f => precedence_Order.l0 f n ms x1 n j x1 x2) (OrdOk n l) := by
 induction d with
 | zero =>
  intro j ms j0 hj hm h
  refine EvP.step (fun f => ?_) (order_l1 hn hl hok hz x1 x2 hx n.toNat [] ms .nil (by simp; omega) ⟨hm, fun k k0 k1 => ?_⟩)
  ·simp only [precedence_Order.l0]
   rw [if_neg (by omega)]
  ·rw [if_neg (by simp), cnt_nil]
   exact h k k0 (by omega)
 | succ d ih =>
  intro j ms j0 hj hm h
  have hw := wrap_succ j j0 (by omega)
  have hx1 := hx.1
  simp only at hx1
  refine EvP.step (fun f => ?_) (ih (j + 1) (ms.set j.toNat ((rd_L3 x1 j).length : Int)) (by omega) (by omega) (by rw [List.length_set]; exact hm) (fun k k0 k1 => ?_))
  ·simp only [precedence_Order.l0]
   rw [if_pos (by omega), if_pos j0, if_pos (by omega), if_pos (by omega), hw]
  ·rw [rd_set ms j k _ j0 (by omega) k0]
   by_cases e : k = j
   ·subst e
    rw [if_pos rfl, (hx.2.2 k k0 (by omega)).1]
   ·rw [if_neg e]
    exact h k k0 (by omega)
theorem order_ev (n : Int) (l : List S47) (hl : l.length ≤ 100000000000000) : EvP (fun f => precedence_Order.f f n l) (OrdOk n l) := by
 unfold precedence_Order.f
 refine EvP.bind (valid_ev n l hl) ?_
 by_cases z : vErr n l = 0
 ·simp only [if_pos z]
  obtain ⟨k1, k2, k3, k4⟩ := vErr_zero z
  refine EvP.bindP (read_ev z) (fun u hu => ?_)
  obtain ⟨x1, x2⟩ := u
  have hx1 := hu.1
  simp only at hx1
  simp only [if_pos k1, if_pos (show n.toNat ≤ 35184372088832 by omega), hx1]
  exact order_l0 ⟨k1, k2⟩ k3 k4 z x1 x2 hu n.toNat 0 _ (by omega) (by omega) (by simp; omega) (fun k k0 k1 => by omega)
 ·simp only [if_neg z]
  exact ⟨_, Ev.now _, .inl ⟨z, rfl⟩⟩
end Go.Proofs.Ytbbkclcfmcjlgaa.B



namespace Go.Proofs.Ytbbkclcfmcjlgaa.B
open Go.RowKit Go.Proofs.Ytbbkclcfmcjlgaa.P Go.Proofs.Ytbbkclcfmcjlgaa.Gr Go.Proofs.YtbbkclcfmcjlgaaW.PrintWords Go.Proofs.YtbbkclcfmcjlgaaW.PrintLast Go.Proofs.YtbbkclcfmcjlgaaW.PrintMore
set_option linter.unusedVariables false
set_option linter.unusedSimpArgs false

theorem of64 (a : Nat) (h : a < 2 ^ 62) : (BitVec.ofInt 64 (a : Int)).toNat = a := by
 rw [BitVec.ofInt_natCast, BitVec.toNat_ofNat]; exact Nat.mod_eq_of_lt (by omega)
theorem wrap62 (x : Nat) (h : x < 2 ^ 62) : IntKind.i64.wrap (x : Int) = x := by
 rw [IntKind.wrap_i64]; omega
theorem or64 (a b : Nat) (ha : a < 2 ^ 62) (hb : b < 2 ^ 62) : Go.bits .or .i64 (a : Int) (b : Int) = ((a ||| b : Nat) : Int) := by
 have hx : a ||| b < 2 ^ 62 := Nat.or_lt_two_pow ha hb
 show IntKind.i64.wrap ((BitVec.ofInt 64 (a : Int) ||| BitVec.ofInt 64 (b : Int)).toNat : Int) = _
 rw [BitVec.toNat_or, of64 a ha, of64 b hb, wrap62 _ hx]
theorem and64 (a b : Nat) (ha : a < 2 ^ 62) (hb : b < 2 ^ 62) : Go.bits .and .i64 (a : Int) (b : Int) = ((a &&& b : Nat) : Int) := by
 have hx : a &&& b < 2 ^ 62 := Nat.and_lt_two_pow _ hb
 show IntKind.i64.wrap ((BitVec.ofInt 64 (a : Int) &&& BitVec.ofInt 64 (b : Int)).toNat : Int) = _
 rw [BitVec.toNat_and, of64 a ha, of64 b hb, wrap62 _ hx]
theorem andNot64 (a b : Nat) (ha : a < 2 ^ 62) (hb : b < 2 ^ 62) : Go.bits .andNot .i64 (a : Int) (b : Int) = 0 ↔ ∀ i : Nat, a.testBit i = true → b.testBit i = true := by
 have hd : Go.bits .andNot .i64 (a : Int) (b : Int) = IntKind.i64.wrap ((BitVec.ofInt 64 (a : Int) &&& ~~~ BitVec.ofInt 64 (b : Int)).toNat : Int) := rfl
 have hle : (BitVec.ofInt 64 (a : Int) &&& ~~~ BitVec.ofInt 64 (b : Int)).toNat < 2 ^ 62 := by
  rw [BitVec.toNat_and, of64 a ha]
  exact Nat.lt_of_le_of_lt Nat.and_le_left ha
 have hbit : ∀ i : Nat, (BitVec.ofInt 64 (a : Int) &&& ~~~ BitVec.ofInt 64 (b : Int)).toNat.testBit i = (a.testBit i && (decide (i < 64) && !b.testBit i)) := fun i => by
  rw [BitVec.testBit_toNat, BitVec.getLsbD_and, BitVec.getLsbD_not, ← BitVec.testBit_toNat, ← BitVec.testBit_toNat, of64 a ha, of64 b hb]
 rw [hd, wrap62 _ hle]
 constructor
 ·intro h i hi
  have h0 : (BitVec.ofInt 64 (a : Int) &&& ~~~ BitVec.ofInt 64 (b : Int)).toNat = 0 := by omega
  have h1 := hbit i
  rw [h0, Nat.zero_testBit, hi] at h1
  have hi64 : i < 64 := by
   by_cases c : i < 64
   ·exact c
   ·rw [Nat.testBit_lt_two_pow (Nat.lt_of_lt_of_le ha (Nat.pow_le_pow_right (by omega) (by omega)))] at hi
    cases hi
  rw [decide_eq_true hi64] at h1
  simpa using h1
 ·intro h
  have h0 : (BitVec.ofInt 64 (a : Int) &&& ~~~ BitVec.ofInt 64 (b : Int)).toNat = 0 := by
   apply Nat.eq_of_testBit_eq
   intro i
   rw [hbit i, Nat.zero_testBit]
   cases hx : a.testBit i with
   | false => rfl
   | true => rw [h i hx]; simp
  omega
theorem shl64 (i : Int) (i0 : 0 ≤ i) (i1 : i ≤ 61) : shl .i64 1 i = ((2 ^ i.toNat : Nat) : Int) := by
 unfold shl
 rw [show min i.toNat IntKind.i64.bits = i.toNat from Nat.min_eq_left (by show i.toNat ≤ 64; omega), Int.one_mul]
 have h : (2 : Int) ^ i.toNat = ((2 ^ i.toNat : Nat) : Int) := by simp
 rw [h]
 exact wrap62 _ (Nat.pow_lt_pow_right (by omega) (by omega))
theorem shr64 (S : Nat) (i : Int) (i0 : 0 ≤ i) (i1 : i ≤ 61) : shr .i64 (S : Int) i = ((S / 2 ^ i.toNat : Nat) : Int) := by
 unfold shr
 rw [show min i.toNat IntKind.i64.bits = i.toNat from Nat.min_eq_left (by show i.toNat ≤ 64; omega)]
 simp
theorem bit_out (S : Nat) (hS : S < 2 ^ 62) (i : Int) (i0 : 0 ≤ i) (i1 : i ≤ 61) : Go.bits .and .i64 (shr .i64 (S : Int) i) 1 = 0 ↔ ¬ S.testBit i.toNat = true := by
 rw [shr64 S i i0 i1, show (1 : Int) = ((1 : Nat) : Int) from rfl, and64 _ _ (Nat.lt_of_le_of_lt (Nat.div_le_self _ _) hS) (by decide), Nat.and_one_is_mod, Nat.testBit_eq_decide_div_mod_eq]
 simp only [decide_eq_true_eq]
 omega

def In (S : Nat) (o : List Int) : Prop := ∀ x : Nat, S.testBit x = true ↔ (x : Int) ∈ o
theorem In.lt {n : Int} {l : List S47} {S : Nat} {o : List Int} (h : In S o) (hl : Lst n l o) (hn : 0 ≤ n) : S < 2 ^ n.toNat := by
 refine Nat.lt_pow_two_of_testBit S (fun i hi => ?_)
 cases hx : S.testBit i with
 | false => rfl
 | true =>
  have := hl.2.1 _ ((h i).1 hx)
  omega
theorem In.full {n : Int} {l : List S47} {S : Nat} {o : List Int} (h : In S o) (hl : Lst n l o) (hn : 0 ≤ n) : ((S : Int) = ((2 ^ n.toNat - 1 : Nat) : Int) ↔ (o.length : Int) = n) := by
 constructor
 ·intro e
  have e2 : S = 2 ^ n.toNat - 1 := by omega
  by_cases c : (o.length : Int) = n
  ·exact c
  ·have := hl.len hn
   obtain ⟨i, hi, hio⟩ := some_out (show (o.length : Int) < n by omega)
   refine absurd ?_ hio
   have h2 := (h i.toNat).1 (by rw [e2, Nat.testBit_two_pow_sub_one]; simp; omega)
   rwa [show ((i.toNat : Nat) : Int) = i by omega] at h2
 ·intro e
  have e2 : S = 2 ^ n.toNat - 1 := by
   apply Nat.eq_of_testBit_eq
   intro i
   rw [Nat.testBit_two_pow_sub_one, Bool.eq_iff_iff, h i, decide_eq_true_eq]
   constructor
   ·intro hm; have := hl.2.1 _ hm; omega
   ·intro hi; exact full_in hl.1 hl.2.1 e i (by omega) (by omega)
  omega
theorem In.add {S : Nat} {o : List Int} (h : In S o) (i : Int) (i0 : 0 ≤ i) : In (S ||| 2 ^ i.toNat) (o ++ [i]) := by
 intro x
 rw [Nat.testBit_or, Nat.testBit_two_pow, Bool.or_eq_true, h x, decide_eq_true_eq, List.mem_append, List.mem_singleton]
 constructor
 ·rintro (hx | hx)
  ·exact .inl hx
  ·exact .inr (by omega)
 ·rintro (hx | hx)
  ·exact .inl hx
  ·exact .inr (by omega)
theorem In.nil : In 0 [] := fun x => by simp
theorem In.mem {S : Nat} {o : List Int} (h : In S o) {i : Int} (i0 : 0 ≤ i) : S.testBit i.toNat = true ↔ i ∈ o := by
 rw [h i.toNat, show ((i.toNat : Nat) : Int) = i by omega]
theorem In.same {n : Int} {l : List S47} {S : Nat} {o o' : List Int} (h : In S o) (h' : In S o') (hl : Lst n l o) (hl' : Lst n l o') (x : Int) : x ∈ o ↔ x ∈ o' := by
 constructor
 ·intro hx
  exact (h'.mem (hl.2.1 x hx).1).1 ((h.mem (hl.2.1 x hx).1).2 hx)
 ·intro hx
  exact (h.mem (hl'.2.1 x hx).1).1 ((h'.mem (hl'.2.1 x hx).1).2 hx)
def NdOk (n : Int) (l : List S47) (nd : List Int) : Prop := (nd.length : Int) = n ∧ ∀ x, 0 ≤ x → x < n → ∃ K : Nat, rd nd x = K ∧ K < 2 ^ 62 ∧ ∀ y : Nat, K.testBit y = true ↔ Rl l y x
open Classical in
theorem sopen_ev {n : Int} {l : List S47} (hok : ∀ p ∈ l, okp n p = true) (hn : 0 ≤ n ∧ n ≤ 16) {nd : List Int} (hnd : NdOk n l nd) {S : Nat} {o : List Int} (h : In S o) (hl : Lst n l o) (i : Int) (i0 : 0 ≤ i) (i1 : i < n) : sopen.f nd S i = some (decide (Can n l o i)) := by
 have hS : S < 2 ^ 62 := Nat.lt_of_lt_of_le (h.lt hl hn.1) (Nat.pow_le_pow_right (by omega) (by omega))
 obtain ⟨K, hK, hKl, hKb⟩ := hnd.2 i i0 i1
 have hnl := hnd.1
 have e1 := bit_out S hS i i0 (by omega)
 rw [h.mem i0] at e1
 unfold sopen.f
 rw [if_pos i0]
 by_cases c : i ∈ o
 ·rw [if_neg (fun hx => (e1.1 hx) c)]
  rw [decide_eq_false (fun hx => hx.2.1 c)]
 ·rw [if_pos (e1.2 c), if_pos (by omega), hK]
  congr 1
  rw [Bool.eq_iff_iff, decide_eq_true_eq, beq_iff_eq, andNot64 K S hKl hS]
  unfold Can
  rw [rdy_iff]
  constructor
  ·intro hx
   refine ⟨⟨i0, i1⟩, c, fun a ha => ?_⟩
   have har := ((rl_inn hok) a i ha).1
   have := hx a.toNat ((hKb a.toNat).2 (by rw [show ((a.toNat : Nat) : Int) = a by omega]; exact ha))
   exact (h.mem har.1).1 this
  ·rintro ⟨_, _, hx⟩ y hy
   exact (h y).2 (hx y ((hKb y).1 hy))

theorem sopen_yes {n : Int} {l : List S47} (hok : ∀ p ∈ l, okp n p = true) (hn : 0 ≤ n ∧ n ≤ 16) {nd : List Int} (hnd : NdOk n l nd) {S : Nat} {o : List Int} (h : In S o) (hl : Lst n l o) (i : Int) (c : Can n l o i) : sopen.f nd S i = some true := by
 rw [sopen_ev hok hn hnd h hl i c.1.1 c.1.2]
 simp [c]
theorem sopen_no {n : Int} {l : List S47} (hok : ∀ p ∈ l, okp n p = true) (hn : 0 ≤ n ∧ n ≤ 16) {nd : List Int} (hnd : NdOk n l nd) {S : Nat} {o : List Int} (h : In S o) (hl : Lst n l o) (i : Int) (i0 : 0 ≤ i) (i1 : i < n) (c : ¬ Can n l o i) : sopen.f nd S i = some false := by
 rw [sopen_ev hok hn hnd h hl i i0 i1]
 simp [c]

def Fin (n : Int) (l : List S47) (o q : List Int) : Prop := Lst n l (o ++ q) ∧ ((o ++ q).length : Int) = n
theorem fin_snoc {n : Int} {l : List S47} {o q : List Int} {i : Int} : Fin n l (o ++ [i]) q ↔ Fin n l o (i :: q) := by
 unfold Fin
 rw [List.append_assoc]
 exact Iff.rfl
theorem Fin.can {n : Int} {l : List S47} {o q : List Int} {i : Int} (h : Fin n l o (i :: q)) : Can n l o i := by
 have h2 := h.1.can (o.length : Int) (by omega) (by rw [List.length_append, List.length_cons]; omega)
 have e : rd (o ++ i :: q) (o.length : Int) = i := by
  unfold rd
  rw [List.getD_eq_getElem?_getD, List.getElem?_append_right (by omega)]
  simp
 rw [e, show ((o.length : Nat) : Int).toNat = o.length by omega, List.take_append_of_le_length (Nat.le_refl _), List.take_length] at h2
 exact h2
theorem can_same {n : Int} {l : List S47} {o o' : List Int} (h : ∀ x, x ∈ o ↔ x ∈ o') {i : Int} (hc : Can n l o i) : Can n l o' i := by
 refine ⟨hc.1, fun hx => hc.2.1 ((h i).2 hx), (rdy_iff _ _ _).2 (fun a ha => (h a).1 ((rdy_iff _ _ _).1 hc.2.2 a ha))⟩
theorem fin_nil_len {n : Int} {l : List S47} (hn : 0 ≤ n) {o o' : List Int} (h : ∀ x, x ∈ o ↔ x ∈ o') (hl : Lst n l o) (hl' : Lst n l o') (ho : (o.length : Int) = n) : (o'.length : Int) = n := by
 have h1 := hl'.len hn
 by_cases c : (o'.length : Int) = n
 ·exact c
 ·obtain ⟨i, hi, hio⟩ := some_out (show (o'.length : Int) < n by omega)
  exact absurd ((h i).1 (full_in hl.1 hl.2.1 ho i hi.1 hi.2)) hio
theorem fin_same {n : Int} {l : List S47} (hn : 0 ≤ n) (q : List Int) : ∀ {o o' : List Int}, (∀ x, x ∈ o ↔ x ∈ o') → Lst n l o → Lst n l o' → Fin n l o q → Fin n l o' q := by
 induction q with
 | nil =>
  intro o o' h hl hl' hf
  unfold Fin at hf ⊢
  rw [List.append_nil] at hf ⊢
  exact ⟨hl', fin_nil_len hn h hl hl' hf.2⟩
 | cons i q ih =>
  intro o o' h hl hl' hf
  have hc := hf.can
  rw [← fin_snoc] at hf ⊢
  exact ih (fun x => by rw [List.mem_append, List.mem_append, h x]) (hl.snoc hc) (hl'.snoc (can_same h hc)) hf
theorem fin_ex {n : Int} {l : List S47} (hok : ∀ p ∈ l, okp n p = true) (ha : Acyc (Rl l)) (d : Nat) : ∀ {o : List Int}, Lst n l o → (o.length : Int) + d = n → ∃ q, Fin n l o q ∧ (q.length : Int) = d := by
 induction d with
 | zero =>
  intro o hl hd
  exact ⟨[], ⟨by rw [List.append_nil]; exact hl, by rw [List.append_nil]; omega⟩, rfl⟩
 | succ d ih =>
  intro o hl hd
  obtain ⟨i, hi⟩ := can_of_acyc hok ha (show (o.length : Int) < n by omega)
  obtain ⟨q, hq, hql⟩ := ih (hl.snoc hi.1) (by rw [List.length_append, List.length_singleton]; omega)
  exact ⟨i :: q, fin_snoc.1 hq, by rw [List.length_cons]; omega⟩

theorem cst_nonneg (tl : List Int) (q : List Int) : ∀ la, 0 ≤ cst tl la q := by
 induction q with
 | nil => exact fun _ => Int.le_refl _
 | cons i q ih =>
  intro la
  have := ih i
  unfold cst
  split <;> omega
theorem cst_le (tl : List Int) (q : List Int) : ∀ la, cst tl la q ≤ q.length := by
 induction q with
 | nil => exact fun _ => Int.le_refl _
 | cons i q ih =>
  intro la
  have := ih i
  unfold cst
  rw [List.length_cons]
  split <;> omega
theorem cst_append (tl : List Int) (q : List Int) (o : List Int) : ∀ la, cst tl la (o ++ q) = cst tl la o + cst tl (o.getLastD la) q := by
 induction o with
 | nil => intro la; simp [cst]
 | cons i o ih =>
  intro la
  rw [List.cons_append, cst, cst, ih i, List.getLastD_cons]
  omega
def Least (n : Int) (l : List S47) (tl o : List Int) (la v : Int) : Prop := (∃ q, Fin n l o q ∧ cst tl la q = v) ∧ ∀ q, Fin n l o q → v ≤ cst tl la q
theorem Least.same {n : Int} {l : List S47} {tl o o' : List Int} {la v : Int} (hn : 0 ≤ n) (h : ∀ x, x ∈ o ↔ x ∈ o') (hl : Lst n l o) (hl' : Lst n l o') (k : Least n l tl o la v) : Least n l tl o' la v := by
 obtain ⟨⟨q, hq, e⟩, hm⟩ := k
 exact ⟨⟨q, fin_same hn q h hl hl' hq, e⟩, fun q hq => hm q (fin_same hn q (fun x => (h x).symm) hl' hl hq)⟩
def LeastAt (n : Int) (l : List S47) (tl o : List Int) (la i v : Int) : Prop := (∃ q, Fin n l o (i :: q) ∧ cst tl la (i :: q) = v) ∧ ∀ q, Fin n l o (i :: q) → v ≤ cst tl la (i :: q)
theorem Least.at {n : Int} {l : List S47} {tl o : List Int} {la i v : Int} (h : Least n l tl (o ++ [i]) i v) : LeastAt n l tl o la i ((if 0 ≤ la ∧ rd tl la ≠ rd tl i then 1 else 0) + v) := by
 obtain ⟨⟨q, hq, e⟩, hm⟩ := h
 refine ⟨⟨q, fin_snoc.1 hq, by rw [cst, e]⟩, fun q hq => ?_⟩
 have := hm q (fin_snoc.2 hq)
 rw [cst]
 omega
end Go.Proofs.Ytbbkclcfmcjlgaa.B


namespace Go.Proofs.Ytbbkclcfmcjlgaa.B
open Go.RowKit Go.Proofs.Ytbbkclcfmcjlgaa.P Go.Proofs.Ytbbkclcfmcjlgaa.Gr Go.Proofs.YtbbkclcfmcjlgaaW.PrintWords Go.Proofs.YtbbkclcfmcjlgaaW.PrintLast Go.Proofs.YtbbkclcfmcjlgaaW.PrintMore
set_option linter.unusedVariables false
set_option linter.unusedSimpArgs false

def MemOk (n : Int) (l : List S47) (tl : List Int) (C : List (List Int)) : Prop := (C.length : Int) = n ∧ ∀ a, 0 ≤ a → a < n → (rd_L3 C a).length = 2 ^ n.toNat ∧ ∀ (S : Nat) (o : List Int), In S o → Lst n l o → rd (rd_L3 C a) S = 0 ∨ ∃ v, rd (rd_L3 C a) S = v + 1 ∧ (0 ≤ v ∧ v ≤ n) ∧ Least n l tl o a v
theorem MemOk.set {n : Int} {l : List S47} {tl : List Int} {C : List (List Int)} (hn : 0 ≤ n) (h : MemOk n l tl C) {a : Int} (a0 : 0 ≤ a) (a1 : a < n) {S : Nat} {o : List Int} (hS : In S o) (hl : Lst n l o) {v : Int} (hv : 0 ≤ v ∧ v ≤ n) (hm : Least n l tl o a v) : MemOk n l tl (C.set a.toNat ((rd_L3 C a).set (S : Int).toNat (v + 1))) := by
 have hcl := h.1
 have hSl := hS.lt hl hn
 refine ⟨by rw [List.length_set]; exact hcl, fun b b0 b1 => ?_⟩
 by_cases e : b = a
 ·subst e
  rw [rd3_set_self _ _ _ b0 (by omega), List.length_set]
  refine ⟨(h.2 b b0 b1).1, fun S' o' hS' hl' => ?_⟩
  rw [rd_set _ _ _ _ (by omega) (by have := (h.2 b b0 b1).1; omega) (by omega)]
  by_cases e2 : (S' : Int) = S
  ·rw [if_pos e2]
   have e3 : S' = S := by omega
   subst e3
   exact .inr ⟨v, rfl, hv, hm.same hn (hS.same hS' hl hl') hl hl'⟩
  ·rw [if_neg e2]
   exact (h.2 b b0 b1).2 S' o' hS' hl'
 ·rw [rd3_set_ne _ _ _ _ a0 b0 e]
  exact h.2 b b0 b1
def SrOk (n : Int) (l : List S47) (tl o : List Int) (la : Int) (u : Int × List (List Int)) : Prop := Least n l tl o la u.1 ∧ (0 ≤ u.1 ∧ u.1 ≤ n) ∧ MemOk n l tl u.2
def StepOk (n : Int) (l : List S47) (tl o : List Int) (la i : Int) (u : Int × List (List Int)) : Prop := LeastAt n l tl o la i u.1 ∧ (0 ≤ u.1 ∧ u.1 ≤ n + 1) ∧ MemOk n l tl u.2
section
variable {n : Int} {l : List S47} {tl nd : List Int}
theorem shl_lt (hn : 0 ≤ n ∧ n ≤ 16) {i : Int} (i0 : 0 ≤ i) (i1 : i < n) : 2 ^ i.toNat < 2 ^ 62 := Nat.pow_lt_pow_right (by omega) (by omega)
theorem In.lt62 {S : Nat} {o : List Int} (h : In S o) (hl : Lst n l o) (hn : 0 ≤ n ∧ n ≤ 16) : S < 2 ^ 62 := Nat.lt_of_lt_of_le (h.lt hl hn.1) (Nat.pow_le_pow_right (by omega) (by omega))
theorem or_in {S : Nat} {o : List Int} (h : In S o) (hl : Lst n l o) (hn : 0 ≤ n ∧ n ≤ 16) {i : Int} (i0 : 0 ≤ i) (i1 : i < n) : Go.bits .or .i64 (S : Int) (shl .i64 1 i) = ((S ||| 2 ^ i.toNat : Nat) : Int) := by
 rw [shl64 i i0 (by omega), or64 S _ (h.lt62 hl hn) (shl_lt hn i0 i1)]
theorem sstep_ev (hn : 0 ≤ n ∧ n ≤ 16) (htl : (tl.length : Int) = n) {d : Nat} (ih : ∀ (S : Nat) (o : List Int) (a : Int) (C : List (List Int)), Lst n l o → In S o → (o.length : Int) + d = n → 0 ≤ a → a < n → MemOk n l tl C → EvP (fun k => srest.f nd tl ((2 ^ n.toNat - 1 : Nat) : Int) k S a C) (SrOk n l tl o a))
  (S : Nat) (o : List Int) (la i : Int) (C : List (List Int)) (hl : Lst n l o) (hS : In S o) (hd : (o.length : Int) + (d + 1 : Nat) = n) (hla : la < n) (hc : Can n l o i) (hm : MemOk n l tl C) : EvP (fun k => sstep.f nd tl ((2 ^ n.toNat - 1 : Nat) : Int) k S la i C) (StepOk n l tl o la i) := by
 have hi := hc.1
 refine EvP.step (f := fun k => (srest.f nd tl ((2 ^ n.toNat - 1 : Nat) : Int) k ((S ||| 2 ^ i.toNat : Nat) : Int) i C).bind fun u => if 0 ≤ la then (if la < (tl.length : Int) ∧ i < (tl.length : Int) then (if rd tl la = rd tl i then some u else some (wrap64 (u.1 + 1), u.2)) else none) else some u) (fun k => ?_) ?_
 ·rw [sstep.f, if_pos hi.1, or_in hS hl hn hi.1 hi.2]
 ·refine EvP.bindP (ih (S ||| 2 ^ i.toNat) (o ++ [i]) i C (hl.snoc hc) (hS.add i hi.1) (by rw [List.length_append, List.length_singleton]; omega) hi.1 hi.2 hm) (fun u hu => ?_)
  obtain ⟨h1, h2, h3⟩ := hu
  have h4 := h1.at (la := la)
  by_cases c : 0 ≤ la
  ·simp only [if_pos c, if_pos (show la < (tl.length : Int) ∧ i < (tl.length : Int) by omega)]
   by_cases c2 : rd tl la = rd tl i
   ·simp only [if_pos c2]
    rw [if_neg (fun hx => hx.2 c2), Int.zero_add] at h4
    exact ⟨_, Ev.now _, h4, by omega, h3⟩
   ·simp only [if_neg c2]
    rw [if_pos ⟨c, c2⟩] at h4
    refine ⟨_, Ev.now _, ?_, ?_, h3⟩
    ·show LeastAt n l tl o la i (wrap64 (u.1 + 1))
     rw [wrap_succ _ h2.1 (by omega), Int.add_comm]
     exact h4
    ·show 0 ≤ wrap64 (u.1 + 1) ∧ wrap64 (u.1 + 1) ≤ n + 1
     rw [wrap_succ _ h2.1 (by omega)]
     omega
  ·simp only [if_neg c]
   rw [if_neg (fun hx => c hx.1), Int.zero_add] at h4
   exact ⟨_, Ev.now _, h4, by omega, h3⟩
theorem srest_l0 (hok : ∀ p ∈ l, okp n p = true) (ha : Acyc (Rl l)) (hn : 0 ≤ n ∧ n ≤ 16) (htl : (tl.length : Int) = n) (hnd : NdOk n l nd) {d : Nat} (S : Nat) (o : List Int) (hl : Lst n l o) (hS : In S o) (hd : (o.length : Int) + (d + 1 : Nat) = n) (la : Int) (a0 : 0 ≤ la) (a1 : la < n)
  (ih : ∀ (i : Int) (C : List (List Int)), Can n l o i → MemOk n l tl C → EvP (fun k => sstep.f nd tl ((2 ^ n.toNat - 1 : Nat) : Int) k S la i C) (StepOk n l tl o la i)) (e : Nat) : ∀ (i b : Int) (C : List (List Int)), 0 ≤ i → i + e = n → MemOk n l tl C → 0 ≤ b → b ≤ n → (b = n ∨ ∃ q, Fin n l o q ∧ cst tl la q = b) → (∀ x q, Fin n l o (x :: q) → x < i → b ≤ cst tl la (x :: q)) → EvP (fun k => srest.l0 nd tl ((2 ^ n.toNat - 1 : Nat) : Int) k S la b i C) (SrOk n l tl o la) := by
 induction e with
 | zero =>
  intro i b C i0 hi hm b0 b1 hb hall
  have hrow := hm.2 la a0 a1
  have hml := hm.1
  have hSl := hS.lt hl hn.1
  have hle : ∀ q, Fin n l o q → b ≤ cst tl la q := fun q hq => by
   cases q with
   | nil =>
    have := hq.2
    rw [List.append_nil] at this
    omega
   | cons x q => exact hall x q hq (by have := hq.can.1.2; omega)
  have hleast : Least n l tl o la b := by
   refine ⟨?_, hle⟩
   rcases hb with rfl | hb
   ·obtain ⟨q, hq, hql⟩ := fin_ex hok ha (d + 1) hl hd
    have h1 := hle q hq
    have h2 := cst_le tl q la
    exact ⟨q, hq, by omega⟩
   ·exact hb
  refine EvP.stop (b, C.set la.toNat ((C.getD la.toNat []).set (S : Int).toNat (wrap64 (b + 1)))) (fun k => ?_) ⟨hleast, ⟨b0, b1⟩, ?_⟩
  ·rw [srest.l0, if_neg (by omega), if_pos ⟨a0, by omega, by omega, by
    have : (rd_L3 C la).length = 2 ^ n.toNat := hrow.1
    show (S : Int) < ((rd_L3 C la).length : Int)
    omega⟩]
  ·show MemOk n l tl (C.set la.toNat ((rd_L3 C la).set (S : Int).toNat (wrap64 (b + 1))))
   rw [wrap_succ b b0 (by omega)]
   exact hm.set hn.1 a0 a1 hS hl ⟨b0, b1⟩ hleast
 | succ e ihe =>
  intro i b C i0 hi hm b0 b1 hb hall
  have hw := wrap_succ i i0 (by omega)
  by_cases c : Can n l o i
  ·have hop := sopen_yes hok hn hnd hS hl i c
   refine EvP.step (f := fun k => (sstep.f nd tl ((2 ^ n.toNat - 1 : Nat) : Int) k S la i C).bind fun u => srest.l0 nd tl ((2 ^ n.toNat - 1 : Nat) : Int) k S la (mn b u.1) (i + 1) u.2) (fun k => ?_) ?_
   ·rw [srest.l0, if_pos (by omega), hop, hw]
    rfl
   ·refine EvP.bindP (ih i C c hm) (fun u hu => ?_)
    obtain ⟨⟨⟨q1, h1, h2⟩, h3⟩, h4, h5⟩ := hu
    by_cases cl : u.1 < b
    ·have e1 : mn b u.1 = u.1 := by unfold mn; rw [if_pos cl]
     simp only [e1]
     refine ihe (i + 1) u.1 u.2 (by omega) (by omega) h5 h4.1 (by omega) (.inr ⟨_, h1, h2⟩) (fun x q hq hx => ?_)
     by_cases ex : x = i
     ·subst ex; exact h3 q hq
     ·have := hall x q hq (by omega); omega
    ·have e1 : mn b u.1 = b := by unfold mn; rw [if_neg cl]
     simp only [e1]
     refine ihe (i + 1) b u.2 (by omega) (by omega) h5 b0 b1 hb (fun x q hq hx => ?_)
     by_cases ex : x = i
     ·subst ex; have := h3 q hq; omega
     ·exact hall x q hq (by omega)
  ·have hop := sopen_no hok hn hnd hS hl i i0 (by omega) c
   refine EvP.step (fun k => ?_) (ihe (i + 1) b C (by omega) (by omega) hm b0 b1 hb (fun x q hq hx => ?_))
   ·rw [srest.l0, if_pos (by omega), hop, hw]
    rfl
   ·by_cases ex : x = i
    ·subst ex; exact absurd hq.can c
    ·exact hall x q hq (by omega)
theorem srest_ev (hok : ∀ p ∈ l, okp n p = true) (ha : Acyc (Rl l)) (hn : 0 ≤ n ∧ n ≤ 16) (htl : (tl.length : Int) = n) (hnd : NdOk n l nd) (d : Nat) : ∀ (S : Nat) (o : List Int) (a : Int) (C : List (List Int)), Lst n l o → In S o → (o.length : Int) + d = n → 0 ≤ a → a < n → MemOk n l tl C → EvP (fun k => srest.f nd tl ((2 ^ n.toNat - 1 : Nat) : Int) k S a C) (SrOk n l tl o a) := by
 induction d with
 | zero =>
  intro S o a C hl hS hd a0 a1 hm
  have hf := (hS.full hl hn.1).2 (by omega)
  refine EvP.stop (0, C) (fun k => by rw [srest.f, if_pos hf]) ⟨⟨⟨[], ⟨by rw [List.append_nil]; exact hl, by rw [List.append_nil]; omega⟩, rfl⟩, fun q hq => cst_nonneg _ _ _⟩, ⟨Int.le_refl _, hn.1⟩, hm⟩
 | succ d ih =>
  intro S o a C hl hS hd a0 a1 hm
  have hf : ¬ (S : Int) = ((2 ^ n.toNat - 1 : Nat) : Int) := fun e => by
   have := (hS.full hl hn.1).1 e
   omega
  have hrow := hm.2 a a0 a1
  have hml := hm.1
  have hSl := hS.lt hl hn.1
  have hcnd : 0 ≤ a ∧ a < (C.length : Int) ∧ 0 ≤ (S : Int) ∧ (S : Int) < ((C.getD a.toNat []).length : Int) := ⟨a0, by omega, by omega, by
   have : (rd_L3 C a).length = 2 ^ n.toNat := hrow.1
   show (S : Int) < ((rd_L3 C a).length : Int)
   omega⟩
  by_cases c : rd (rd_L3 C a) S > 0
  ·rcases hrow.2 S o hS hl with h | ⟨v, h1, h2, h3⟩
   ·omega
   ·refine EvP.stop (v, C) (fun k => ?_) ⟨h3, h2, hm⟩
    rw [srest.f, if_neg hf, if_pos hcnd, if_pos (show rd (C.getD a.toNat []) S > 0 from c), show rd (C.getD a.toNat []) S = v + 1 from h1, show v + 1 - 1 = v by omega, wrap_mid v (by omega) (by omega)]
  ·refine EvP.step (f := fun k => srest.l0 nd tl ((2 ^ n.toNat - 1 : Nat) : Int) k S a n 0 C) (fun k => ?_) (srest_l0 hok ha hn htl hnd S o hl hS hd a a0 a1 (fun i C' hc hm' => sstep_ev hn htl ih S o a i C' hl hS hd a1 hc hm') n.toNat 0 n C (by omega) (by omega) hm hn.1 (by omega) (.inl rfl) (fun x q hq hx => by have := hq.can.1.1; omega))
   rw [srest.f, if_neg hf, if_pos hcnd, if_neg (show ¬ rd (C.getD a.toNat []) S > 0 from c), htl]

inductive Lx : List Int → List Int → Prop
 | here {x y : Int} {a b : List Int} : x < y → Lx (x :: a) (y :: b)
 | tail {x : Int} {a b : List Int} : Lx a b → Lx (x :: a) (x :: b)
theorem Lx.asymm {a b : List Int} (h : Lx a b) : ¬ Lx b a := by
 induction h with
 | here h =>
  intro k
  cases k with
  | here k => omega
  | tail k => omega
 | tail h ih =>
  intro k
  cases k with
  | here k => omega
  | tail k => exact ih k
theorem Lx.ext {a b : List Int} (h : Lx a b) (c : List Int) : Lx (a ++ c) b := by
 induction h with
 | here h => exact .here h
 | tail h ih => exact .tail ih
theorem Lx.pre (o : List Int) {x y : Int} (h : x < y) (a b : List Int) : Lx (o ++ x :: a) (o ++ y :: b) := by
 induction o with
 | nil => exact .here h
 | cons z o ih => exact .tail ih
def First (n : Int) (l : List S47) (tl o : List Int) : Prop := Fin n l [] o ∧ ∀ q, Fin n l [] q → cst tl (-1) o ≤ cst tl (-1) q ∧ (cst tl (-1) q = cst tl (-1) o → q = o ∨ Lx o q)
theorem First.uniq {n : Int} {l : List S47} {tl o o' : List Int} (h : First n l tl o) (k : First n l tl o') : o = o' := by
 have h1 := h.2 o' k.1
 have k1 := k.2 o h.1
 have e : cst tl (-1) o' = cst tl (-1) o := by omega
 rcases h1.2 e with e2 | e2
 ·exact e2.symm
 ·rcases k1.2 e.symm with e3 | e3
  ·exact e3
  ·exact absurd e3 e2.asymm
def PickOk (n : Int) (l : List S47) (tl o : List Int) (la i : Int) (t : Int × Int) : Prop :=
 (t.1 = -1 ∧ ∀ x, x < i → ¬ Can n l o x) ∨ ((0 ≤ t.1 ∧ t.1 < i) ∧ Can n l o t.1 ∧ LeastAt n l tl o la t.1 t.2 ∧ (∀ x q, x < i → Fin n l o (x :: q) → t.2 ≤ cst tl la (x :: q)) ∧ ∀ x q, x < t.1 → Fin n l o (x :: q) → t.2 < cst tl la (x :: q))
theorem bst_l3 (hok : ∀ p ∈ l, okp n p = true) (ha : Acyc (Rl l)) (hn : 0 ≤ n ∧ n ≤ 16) (htl : (tl.length : Int) = n) (hnd : NdOk n l nd) {d : Nat} (S : Nat) (o : List Int) (hl : Lst n l o) (hS : In S o) (hd : (o.length : Int) + (d + 1 : Nat) = n) (la : Int) (a1 : la < n) (e : Nat) : ∀ (i b le : Int) (C : List (List Int)), 0 ≤ i → i + e = n → MemOk n l tl C → PickOk n l tl o la i (b, le) → EvP (fun k => bst.l3 nd tl ((2 ^ n.toNat - 1 : Nat) : Int) n S la k i b le C) (fun t => PickOk n l tl o la n (t.1, t.2.1) ∧ MemOk n l tl t.2.2) := by
 induction e with
 | zero =>
  intro i b le C i0 hi hm hp
  have : i = n := by omega
  subst this
  exact EvP.stop (b, le, C) (fun k => by rw [bst.l3, if_neg (by omega)]) ⟨hp, hm⟩
 | succ e ih =>
  intro i b le C i0 hi hm hp
  have hw := wrap_succ i i0 (by omega)
  by_cases c : Can n l o i
  ·have hop := sopen_yes hok hn hnd hS hl i c
   refine EvP.step (f := fun k => (sstep.f nd tl ((2 ^ n.toNat - 1 : Nat) : Int) k S la i C).bind fun u => if b < 0 then bst.l3 nd tl ((2 ^ n.toNat - 1 : Nat) : Int) n S la k (i + 1) i u.1 u.2 else (if u.1 < le then bst.l3 nd tl ((2 ^ n.toNat - 1 : Nat) : Int) n S la k (i + 1) i u.1 u.2 else bst.l3 nd tl ((2 ^ n.toNat - 1 : Nat) : Int) n S la k (i + 1) b le u.2)) (fun k => ?_) ?_
   ·rw [bst.l3, if_pos (by omega), hop, hw]
    rfl
   ·refine EvP.bindP (sstep_ev hn htl (srest_ev hok ha hn htl hnd d) S o la i C hl hS hd a1 c hm) (fun u hu => ?_)
    obtain ⟨h1, h2, h3⟩ := hu
    by_cases cb : b < 0
    ·simp only [if_pos cb]
     refine ih (i + 1) i u.1 u.2 (by omega) (by omega) h3 (.inr ⟨by simp; omega, c, h1, fun x q hx hq => ?_, fun x q hx hq => ?_⟩)
     ·rcases hp with ⟨_, hp⟩ | ⟨hp, _⟩
      ·by_cases ex : x = i
       ·subst ex; exact h1.2 q hq
       ·exact absurd hq.can (hp x (by omega))
      ·simp at hp; omega
     ·rcases hp with ⟨_, hp⟩ | ⟨hp, _⟩
      ·exact absurd hq.can (hp x hx)
      ·simp at hp; omega
    ·rcases hp with ⟨hp, _⟩ | ⟨hp1, hp2, hp3, hp4, hp5⟩
     ·simp at hp; omega
     ·simp only at hp1 hp2 hp3 hp4 hp5
      simp only [if_neg cb]
      by_cases cu : u.1 < le
      ·simp only [if_pos cu]
       refine ih (i + 1) i u.1 u.2 (by omega) (by omega) h3 (.inr ⟨by simp; omega, c, h1, fun x q hx hq => ?_, fun x q hx hq => ?_⟩)
       ·by_cases ex : x = i
        ·subst ex; exact h1.2 q hq
        ·have := hp4 x q (by omega) hq; simp only; omega
       ·have := hp4 x q hx hq; simp only; omega
      ·simp only [if_neg cu]
       refine ih (i + 1) b le u.2 (by omega) (by omega) h3 (.inr ⟨by simp; omega, hp2, hp3, fun x q hx hq => ?_, hp5⟩)
       by_cases ex : x = i
       ·subst ex; have := h1.2 q hq; simp only; omega
       ·exact hp4 x q (by omega) hq
  ·have hop := sopen_no hok hn hnd hS hl i i0 (by omega) c
   refine EvP.step (fun k => ?_) (ih (i + 1) b le C (by omega) (by omega) hm ?_)
   ·rw [bst.l3, if_pos (by omega), hop, hw]
    rfl
   ·rcases hp with ⟨hp1, hp2⟩ | ⟨hp1, hp2, hp3, hp4, hp5⟩
    ·refine .inl ⟨hp1, fun x hx => ?_⟩
     by_cases ex : x = i
     ·subst ex; exact c
     ·exact hp2 x (by omega)
    ·refine .inr ⟨⟨hp1.1, by omega⟩, hp2, hp3, fun x q hx hq => ?_, hp5⟩
     by_cases ex : x = i
     ·subst ex; exact absurd hq.can c
     ·exact hp4 x q (by omega) hq
theorem bst_l2 (hok : ∀ p ∈ l, okp n p = true) (ha : Acyc (Rl l)) (hn : 0 ≤ n ∧ n ≤ 16) (htl : (tl.length : Int) = n) (hnd : NdOk n l nd) (V : Int) (hV : Least n l tl [] (-1) V) (d : Nat) : ∀ (S : Nat) (o : List Int) (ch : Int) (C : List (List Int)), Lst n l o → In S o → (o.length : Int) + d = n → MemOk n l tl C → (o = [] → ch = 0) → (o ≠ [] → ch = V) → (∃ q, Fin n l o q ∧ cst tl (-1) (o ++ q) = V) → (∀ q, Fin n l [] q → cst tl (-1) q = V → (∃ z, q = o ++ z) ∨ Lx o q) → EvP (fun k => bst.l2 nd tl ((2 ^ n.toNat - 1 : Nat) : Int) n k S (o.getLastD (-1)) ch o C) (fun r => First n l tl r.1 ∧ r.2 = cst tl (-1) r.1) := by
 induction d with
 | zero =>
  intro S o ch C hl hS hd hm hc0 hc1 hex hlex
  have hf := (hS.full hl hn.1).2 (by omega)
  obtain ⟨q, hq, hqV⟩ := hex
  have hq0 : q = [] := by
   have := hq.2
   rw [List.length_append] at this
   exact List.eq_nil_of_length_eq_zero (by omega)
  subst hq0
  rw [List.append_nil] at hqV
  refine EvP.stop (o, ch) (fun k => by rw [bst.l2, if_pos hf]) ⟨⟨⟨hl, by show ((o.length : Nat) : Int) = n; omega⟩, fun q hq => ?_⟩, ?_⟩
  ·refine ⟨by rw [hqV]; exact hV.2 q hq, fun e => ?_⟩
   rcases hlex q hq (by rw [e, hqV]) with ⟨z, hz⟩ | h
   ·left
    have h1 := hq.2
    rw [List.nil_append, hz, List.length_append] at h1
    have : z = [] := List.eq_nil_of_length_eq_zero (by omega)
    subst this
    rw [hz, List.append_nil]
   ·exact .inr h
  ·show ch = cst tl (-1) o
   by_cases e : o = []
   ·rw [hc0 e, e]; rfl
   ·rw [hc1 e, hqV]
 | succ d ih =>
  intro S o ch C hl hS hd hm hc0 hc1 hex hlex
  have hf : ¬ (S : Int) = ((2 ^ n.toNat - 1 : Nat) : Int) := fun e => by
   have := (hS.full hl hn.1).1 e
   omega
  have hlast : o.getLastD (-1) < n := by
   by_cases e : o = []
   ·subst e; simp; omega
   ·rw [List.getLastD_eq_getLast?, List.getLast?_eq_some_getLast e]
    exact (hl.2.1 _ (List.getLast_mem e)).2
  have hlast0 : o ≠ [] → 0 ≤ o.getLastD (-1) := fun e => by
   rw [List.getLastD_eq_getLast?, List.getLast?_eq_some_getLast e]
   exact (hl.2.1 _ (List.getLast_mem e)).1
  refine EvP.step (f := fun k => (bst.l3 nd tl ((2 ^ n.toNat - 1 : Nat) : Int) n S (o.getLastD (-1)) k 0 (-1) 0 C).bind fun t => if 0 ≤ t.1 ∧ o.length < 1000000 then bst.l2 nd tl ((2 ^ n.toNat - 1 : Nat) : Int) n k (Go.bits .or .i64 S (shl .i64 1 t.1)) t.1 (if o.getLastD (-1) < 0 then t.2.1 else ch) (o ++ [t.1]) t.2.2 else none) (fun k => ?_) ?_
  ·rw [bst.l2, if_neg hf]
  ·refine EvP.bindP (bst_l3 hok ha hn htl hnd S o hl hS hd (o.getLastD (-1)) hlast n.toNat 0 (-1) 0 C (by omega) (by omega) hm (.inl ⟨rfl, fun x hx hc => by have := hc.1.1; omega⟩)) (fun t ht => ?_)
   obtain ⟨hp, hm2⟩ := ht
   obtain ⟨q0, hq0, hq0V⟩ := hex
   rw [cst_append] at hq0V
   cases q0 with
   | nil =>
    have := hq0.2
    rw [List.append_nil] at this
    omega
   | cons x0 q0 =>
   rcases hp with ⟨_, hp⟩ | ⟨hp1, hp2, hp3, hp4, hp5⟩
   ·exact absurd hq0.can (hp x0 (hq0.can.1.2))
   ·simp only at hp1 hp2 hp3 hp4 hp5
    simp only [if_pos (show 0 ≤ t.1 ∧ o.length < 1000000 from ⟨hp1.1, by omega⟩)]
    rw [or_in hS hl hn hp1.1 hp1.2]
    obtain ⟨⟨q1, hq1, hq1V⟩, hmin⟩ := hp3
    have hle1 := hp4 x0 q0 hq0.can.1.2 hq0
    have hle2 := hV.2 (o ++ t.1 :: q1) ⟨hq1.1, hq1.2⟩
    rw [cst_append, hq1V] at hle2
    have hsum : cst tl (-1) o + t.2.1 = V := by omega
    have hgl : (o ++ [t.1]).getLastD (-1) = t.1 := by simp
    have := ih (S ||| 2 ^ t.1.toNat) (o ++ [t.1]) (if o.getLastD (-1) < 0 then t.2.1 else ch) t.2.2 (hl.snoc hp2) (hS.add t.1 hp1.1) (by rw [List.length_append, List.length_singleton]; omega) hm2 (fun e => by simp at e) (fun _ => ?_) ⟨q1, fin_snoc.2 hq1, by rw [List.append_assoc]; show cst tl (-1) (o ++ t.1 :: q1) = V; rw [cst_append, hq1V]; exact hsum⟩ (fun q hq hqV => ?_)
    ·rw [hgl] at this
     exact this
    ·by_cases e : o = []
     ·subst e
      rw [if_pos (by simp)]
      simpa [cst] using hsum
     ·rw [if_neg (by have := hlast0 e; omega)]
      exact hc1 e
    ·rcases hlex q hq hqV with ⟨z, rfl⟩ | h
     ·have hz : Fin n l o z := ⟨hq.1, hq.2⟩
      rw [cst_append] at hqV
      cases z with
      | nil =>
       have := hz.2
       rw [List.append_nil] at this
       omega
      | cons x z =>
       by_cases ex : x = t.1
       ·subst ex
        left
        exact ⟨z, by rw [List.append_assoc]; rfl⟩
       ·right
        have hge : t.1 < x := by
         by_cases c : x < t.1
         ·have := hp5 x z c hz; omega
         ·omega
        exact Lx.pre o hge [] z
     ·exact .inr (h.ext _)
end
end Go.Proofs.Ytbbkclcfmcjlgaa.B


namespace Go.Proofs.Ytbbkclcfmcjlgaa.B
open Go.RowKit Go.Proofs.Ytbbkclcfmcjlgaa.P Go.Proofs.Ytbbkclcfmcjlgaa.Gr Go.Proofs.YtbbkclcfmcjlgaaW.PrintWords Go.Proofs.YtbbkclcfmcjlgaaW.PrintLast Go.Proofs.YtbbkclcfmcjlgaaW.PrintMore
set_option linter.unusedVariables false
set_option linter.unusedSimpArgs false
theorem bst_l0 {n : Int} (hn : 0 ≤ n ∧ n ≤ 16) (M : Int) (d : Nat) : ∀ (i : Int) (C : List (List Int)), 0 ≤ i → i + d = n → (C.length : Int) = n → (∀ a, 0 ≤ a → a < i → rd_L3 C a = List.replicate M.toNat 0) → EvP (fun k => bst.l0 M k i C) (fun r => (r.length : Int) = n ∧ ∀ a, 0 ≤ a → a < n → rd_L3 r a = List.replicate M.toNat 0) := by
 induction d with
 | zero =>
  intro i C i0 hi hC h
  have : i = n := by omega
  subst this
  exact EvP.stop C (fun k => by rw [bst.l0, if_neg (by omega)]) ⟨hC, h⟩
 | succ d ih =>
  intro i C i0 hi hC h
  refine EvP.step (fun k => ?_) (ih (i + 1) (C.set i.toNat (List.replicate M.toNat 0)) (by omega) (by omega) (by rw [List.length_set]; exact hC) (fun a a0 a1 => ?_))
  ·rw [bst.l0, if_pos (by omega), if_pos i0, wrap_succ i i0 (by omega)]
  ·by_cases e : a = i
   ·subst e; exact rd3_set_self _ _ _ a0 (by omega)
   ·rw [rd3_set_ne _ _ _ _ i0 a0 e]; exact h a a0 (by omega)
theorem bst_l1 {n : Int} {l : List S47} (hn : 0 ≤ n ∧ n ≤ 16) (hl : l.length ≤ 2000) (hok : ∀ p ∈ l, okp n p = true) (d : Nat) : ∀ (j : Int) (nd : List Int), 0 ≤ j → j + d = l.length → NdOk n (l.take j.toNat) nd → EvP (fun k => bst.l1 l k j nd) (NdOk n l) := by
 induction d with
 | zero =>
  intro j nd j0 hj h
  rw [show l.take j.toNat = l from List.take_of_length_le (by omega)] at h
  exact EvP.stop nd (fun k => by rw [bst.l1, if_neg (by omega)]) h
 | succ d ih =>
  intro j nd j0 hj h
  have ho := (okp_iff _ _).1 (hok _ (T47_mem l j j0 (by omega)))
  have ht := take_T47 l j j0 (by omega)
  have hlen := h.1
  refine EvP.step (f := fun k => bst.l1 l k (j + 1) (nd.set (rd_T47 l j).f1.toNat (Go.bits .or .i64 (rd nd (rd_T47 l j).f1) (shl .i64 1 (rd_T47 l j).f0)))) (fun k => ?_) (ih (j + 1) _ (by omega) (by omega) ⟨by rw [List.length_set]; exact hlen, fun x x0 x1 => ?_⟩)
  ·rw [bst.l1, if_pos (by omega), if_pos j0, if_pos ⟨ho.2.2.1, by omega, ho.2.1.1⟩, wrap_succ j j0 (by omega)]
  ·generalize hp : rd_T47 l j = p at ho ht
   rw [rd_set _ _ _ _ ho.2.2.1 (by omega) x0, ht]
   obtain ⟨K, hK, hKl, hKb⟩ := h.2 x x0 x1
   have hmem : ∀ y : Int, Rl (l.take j.toNat ++ [p]) y x ↔ Rl (l.take j.toNat) y x ∨ (y = p.f0 ∧ x = p.f1) := fun y => by
    unfold Rl
    rw [List.mem_append, List.mem_singleton]
    have e : (⟨y, x⟩ : S47) = p ↔ y = p.f0 ∧ x = p.f1 := S47.eta _ _
    rw [e]
   by_cases e : x = p.f1
   ·subst e
    rw [if_pos rfl, hK, shl64 p.f0 ho.2.1.1 (by omega), or64 K _ hKl (shl_lt hn ho.2.1.1 ho.2.1.2)]
    refine ⟨_, rfl, Nat.or_lt_two_pow hKl (shl_lt hn ho.2.1.1 ho.2.1.2), fun y => ?_⟩
    rw [Nat.testBit_or, Nat.testBit_two_pow, Bool.or_eq_true, hKb y, decide_eq_true_eq, hmem]
    have : p.f0.toNat = y ↔ ((y : Int) = p.f0 ∧ p.f1 = p.f1) := by have := ho.2.1.1; omega
    rw [this]
   ·rw [if_neg e]
    refine ⟨K, hK, hKl, fun y => ?_⟩
    rw [hKb y, hmem]
    simp [e]
def BestOk (n : Int) (l : List S47) (tl : List Int) (t : List Int × Int × Int) : Prop :=
 (vErr n l ≠ 0 ∧ t = ([], 0, vErr n l)) ∨ (vErr n l = 0 ∧ (tl.length : Int) ≠ n ∧ t = ([], 0, 1)) ∨ (vErr n l = 0 ∧ (tl.length : Int) = n ∧ n > 16 ∧ t = ([], 0, 3)) ∨ (vErr n l = 0 ∧ (tl.length : Int) = n ∧ n ≤ 16 ∧ ¬ Acyc (Rl l) ∧ t = ([], 0, 12)) ∨ (vErr n l = 0 ∧ (tl.length : Int) = n ∧ n ≤ 16 ∧ Acyc (Rl l) ∧ t.2.2 = 0 ∧ First n l tl t.1 ∧ t.2.1 = cst tl (-1) t.1)
theorem least_ex {n : Int} {l : List S47} (tl o : List Int) (la : Int) (h : ∃ q, Fin n l o q) : ∃ V, Least n l tl o la V := by
 obtain ⟨q, hq⟩ := h
 obtain ⟨V, ⟨h1, h2⟩, h3⟩ := least (fun v => ∃ q, Fin n l o q ∧ cst tl la q = v) ⟨_, cst_nonneg tl q la, q, hq, rfl⟩
 refine ⟨V, h2, fun q hq => ?_⟩
 by_cases c : cst tl la q < V
 ·exact absurd ⟨q, hq, rfl⟩ (h3 _ (cst_nonneg _ _ _) c)
 ·omega
theorem best_ev (n : Int) (l : List S47) (tl : List Int) (hl : l.length ≤ 100000000000000) : EvP (fun k => precedence_Best.f k n l tl) (BestOk n l tl) := by
 unfold precedence_Best.f
 refine EvP.bind (valid_ev n l hl) ?_
 by_cases z : vErr n l = 0
 ·simp only [if_pos z]
  by_cases c : (tl.length : Int) = n
  ·simp only [if_pos c]
   by_cases c2 : n > 16
   ·simp only [if_pos c2]
    exact ⟨_, Ev.now _, .inr (.inr (.inl ⟨z, c, c2, rfl⟩))⟩
   ·simp only [if_neg c2]
    refine EvP.bindP (order_ev n l hl) (fun t ht => ?_)
    obtain ⟨k1, k2, k3, k4⟩ := vErr_zero z
    have hn : 0 ≤ n ∧ n ≤ 16 := ⟨k1, by omega⟩
    rcases ht with ⟨h1, _⟩ | ⟨h1, h2, rfl⟩ | ⟨h1, h2, h3, h4, h5⟩
    ·exact absurd z h1
    ·simp only [if_neg (show ¬ (12 : Int) = 0 by decide)]
     exact ⟨_, Ev.now _, .inr (.inr (.inr (.inl ⟨z, c, hn.2, h2, rfl⟩)))⟩
    ·have hs := shl64 n k1 (by omega)
     have hpow : 2 ^ n.toNat ≤ 2 ^ 16 := Nat.pow_le_pow_right (by omega) (by omega)
     have hpos : 0 < 2 ^ n.toNat := Nat.pow_pos (by omega)
     have hw : wrap64 (((2 ^ n.toNat : Nat) : Int) - 1) = ((2 ^ n.toNat - 1 : Nat) : Int) := by
      rw [wrap_mid _ (by omega) (by omega)]; omega
     simp only [if_pos h3, hs]
     simp only [if_pos (show (0 ≤ n ∧ n.toNat ≤ 1000000) ∧ 0 ≤ ((2 ^ n.toNat : Nat) : Int) ∧ ((2 ^ n.toNat : Nat) : Int).toNat ≤ 1000000 from ⟨⟨k1, by omega⟩, by omega, by omega⟩), hw]
     refine EvP.bindP (bst_l0 hn _ n.toNat 0 _ (by omega) (by omega) (by rw [List.length_replicate]; omega) (fun a a0 a1 => by omega)) (fun C hC => ?_)
     refine EvP.bindP (bst_l1 hn k3 k4 l.length 0 _ (by omega) (by omega) ⟨by rw [List.length_replicate]; omega, fun x x0 x1 => ⟨0, ?_, by decide, fun y => ?_⟩⟩) (fun nd hnd => ?_)
     ·unfold rd
      rw [List.getD_eq_getElem?_getD, List.getElem?_replicate]
      split <;> rfl
     ·unfold Rl
      simp
     ·have hm : MemOk n l tl C := by
       refine ⟨hC.1, fun a a0 a1 => ?_⟩
       rw [hC.2 a a0 a1]
       refine ⟨by rw [List.length_replicate]; omega, fun S o _ _ => .inl ?_⟩
       unfold rd
       rw [List.getD_eq_getElem?_getD, List.getElem?_replicate]
       split <;> rfl
      obtain ⟨q, hq, _⟩ := fin_ex k4 h2 n.toNat (Lst.nil n l) (by simp; omega)
      obtain ⟨V, hV⟩ := least_ex tl [] (-1) ⟨q, hq⟩
      have hgo := bst_l2 k4 h2 hn c hnd V hV n.toNat 0 [] 0 C (Lst.nil n l) In.nil (by simp; omega) hm (fun _ => rfl) (fun e => absurd rfl e) hV.1 (fun q _ _ => .inl ⟨q, rfl⟩)
      exact EvP.bindP hgo (fun r hr => ⟨_, Ev.now _, .inr (.inr (.inr (.inr ⟨z, c, hn.2, h2, rfl, hr.1, hr.2⟩)))⟩)
  ·simp only [if_neg c]
   exact ⟨_, Ev.now _, .inr (.inl ⟨z, c, rfl⟩)⟩
 ·simp only [if_neg z]
  exact ⟨_, Ev.now _, .inl ⟨z, rfl⟩⟩
theorem First.lin {n : Int} {l : List S47} {tl o : List Int} (hz : vErr n l = 0) (h : First n l tl o) : LinP n l o := ⟨hz, h.1.2, h.1.1⟩
end Go.Proofs.Ytbbkclcfmcjlgaa.B



namespace Go.Proofs.Ytbbkclcfmcjlgaa.B
open Go.RowKit Go.Proofs.Ytbbkclcfmcjlgaa.P Go.Proofs.Ytbbkclcfmcjlgaa.Gr Go.Proofs.YtbbkclcfmcjlgaaW.PrintWords Go.Proofs.YtbbkclcfmcjlgaaW.PrintLast Go.Proofs.YtbbkclcfmcjlgaaW.PrintMore
set_option linter.unusedVariables false
set_option linter.unusedSimpArgs false
theorem lst_chgs {n : Int} {l : List S47} {tl o : List Int} (htl : (tl.length : Int) = n) (h : Lst n l o) : chgs o tl = cst tl (-1) o := by
 unfold chgs
 rw [if_pos]
 rw [List.all_eq_true]
 intro x hx
 have := h.2.1 x hx
 rw [inr_iff]
 omega
def Win (tl : List Int) (P : List Int → Prop) (r : List Int) : Prop := P r ∧ ∀ q, P q → cst tl (-1) r ≤ cst tl (-1) q ∧ (cst tl (-1) q = cst tl (-1) r → q = r ∨ Lx r q)
def St (tl : List Int) (P : List Int → Prop) (b : List Int) : Prop := (b = [] ∧ ∀ q, ¬ P q) ∨ (b ≠ [] ∧ Win tl P b)
theorem St.congr {tl : List Int} {P Q : List Int → Prop} {b : List Int} (h : ∀ q, P q ↔ Q q) (k : St tl P b) : St tl Q b := by
 have : P = Q := funext fun q => propext (h q)
 rw [← this]; exact k
def Comp (n : Int) (l : List S47) (o c : List Int) : Prop := ∃ q, Fin n l o q ∧ c = o ++ q
def CompLt (n : Int) (l : List S47) (o : List Int) (i : Int) (c : List Int) : Prop := ∃ x q, x < i ∧ Fin n l o (x :: q) ∧ c = o ++ x :: q
theorem comp_full {n : Int} {l : List S47} {o c : List Int} (h : Comp n l o c) : Fin n l [] c := by
 obtain ⟨q, hq, rfl⟩ := h
 exact hq
section
variable {n : Int} {l : List S47} {tl : List Int}
def BetP (n : Int) (l : List S47) (tl o : List Int) : Prop := ∀ (P : List Int → Prop) (b : List Int), (∀ p, P p → Fin n l [] p) → (∀ p c, P p → Comp n l o c → Lx p c) → St tl P b → EvP (fun k => swarfref29_better.f k n l tl o b) (St tl (fun c => P c ∨ Comp n l o c))
theorem bet_l0 (hn : 0 ≤ n ∧ n ≤ 16) (hl : l.length ≤ 2000) (o : List Int) (ho : Lst n l o) (hol : (o.length : Int) < n) (ih : ∀ i, Can n l o i → BetP n l tl (o ++ [i])) (P : List Int → Prop) (hP : ∀ p, P p → Fin n l [] p) (hlt : ∀ p c, P p → Comp n l o c → Lx p c) (d : Nat) : ∀ (i : Int) (b : List Int), 0 ≤ i → i + d = n → St tl (fun c => P c ∨ CompLt n l o i c) b → EvP (fun k => swarfref29_better.l0 k n l tl o b i) (St tl (fun c => P c ∨ Comp n l o c)) := by
 induction d with
 | zero =>
  intro i b i0 hi hs
  refine EvP.stop b (fun k => ?_) (hs.congr (fun c => ?_))
  ·simp only [swarfref29_better.l0]
   rw [if_neg (by omega)]
  ·refine or_congr Iff.rfl ⟨fun ⟨x, q, _, hf, e⟩ => ⟨_, hf, e⟩, fun ⟨q, hf, e⟩ => ?_⟩
   cases q with
   | nil =>
    have := hf.2
    rw [List.append_nil] at this
    omega
   | cons x q => exact ⟨x, q, by have := hf.can.1.2; omega, hf, e⟩
 | succ d ihd =>
  intro i b i0 hi hs
  have hw := wrap_succ i i0 (by omega)
  have hskip : ¬ Can n l o i → EvP (fun k => swarfref29_better.l0 k n l tl o b (i + 1)) (St tl (fun c => P c ∨ Comp n l o c)) := fun hc => ihd (i + 1) b (by omega) (by omega) (hs.congr (fun c => or_congr Iff.rfl ⟨fun ⟨x, q, hx, hf, e⟩ => ⟨x, q, by omega, hf, e⟩, fun ⟨x, q, hx, hf, e⟩ => ⟨x, q, by
   by_cases ex : x = i
   ·subst ex; exact absurd hf.can hc
   ·omega, hf, e⟩⟩))
  refine EvP.step (f := fun k => (swarfref29_in.f k o i).bind fun t246 => (if t246 = true then (swarfref29_better.l0 k n l tl o b (i + 1)) else ((swarfref29_ready.f k l o i).bind fun t247 => (if t247 = true then ((swarfref29_better.f k n l tl (o ++ [i]) b).bind fun t257 => (swarfref29_better.l0 k n l tl o t257 (i + 1))) else (swarfref29_better.l0 k n l tl o b (i + 1)))))) (fun k => ?_) ?_
  ·simp only [swarfref29_better.l0]
   rw [if_pos (by omega), hw]
   simp only [Option.bind_some, List.nil_append]
   rw [if_pos (show ([] : List Int).length + o.length < 17592186044416 by simp; omega), if_pos (show o.length < 17592186044416 by omega)]
  ·refine EvP.bind (in_ev o (by omega) i) ?_
   by_cases c1 : i ∈ o
   ·simp only [decide_eq_true c1, if_true]
    exact hskip (fun hc => hc.2.1 c1)
   ·simp only [decide_eq_false c1, Bool.false_eq_true, if_false]
    refine EvP.bind (ready_ev l (by omega) o (by omega) i) ?_
    by_cases c2 : rdy l o i = true
    ·simp only [c2, if_true]
     have hc : Can n l o i := ⟨⟨i0, by omega⟩, c1, c2⟩
     refine EvP.bindP (ih i hc (fun c => P c ∨ CompLt n l o i c) b (fun p hp => ?_) (fun p c hp hcc => ?_) hs) (fun t ht => ihd (i + 1) t (by omega) (by omega) (ht.congr (fun c => ?_)))
     ·rcases hp with hp | ⟨x, q, _, hf, rfl⟩
      ·exact hP p hp
      ·exact hf
     ·obtain ⟨q, hq, rfl⟩ := hcc
      rcases hp with hp | ⟨x, z, hx, hf, rfl⟩
      ·exact hlt p _ hp ⟨i :: q, fin_snoc.1 hq, by rw [List.append_assoc]; rfl⟩
      ·rw [List.append_assoc]
       exact Lx.pre o hx z q
     ·constructor
      ·rintro ((hp | ⟨x, q, hx, hf, e⟩) | ⟨q, hf, e⟩)
       ·exact .inl hp
       ·exact .inr ⟨x, q, by omega, hf, e⟩
       ·exact .inr ⟨i, q, by omega, fin_snoc.1 hf, by rw [e, List.append_assoc]; rfl⟩
      ·rintro (hp | ⟨x, q, hx, hf, e⟩)
       ·exact .inl (.inl hp)
       ·by_cases ex : x = i
        ·subst ex
         exact .inr ⟨q, fin_snoc.2 hf, by rw [e, List.append_assoc]; rfl⟩
        ·exact .inl (.inr ⟨x, q, by omega, hf, e⟩)
    ·simp only [show rdy l o i = false by simpa using c2, Bool.false_eq_true, if_false]
     exact hskip (fun hc => c2 hc.2.2)
theorem bet_ev (hn : 1 ≤ n ∧ n ≤ 16) (hl : l.length ≤ 2000) (htl : (tl.length : Int) = n) (d : Nat) : ∀ o : List Int, Lst n l o → (o.length : Int) + d = n → BetP n l tl o := by
 induction d with
 | zero =>
  intro o ho hd P b hP hlt hs
  have hcomp : ∀ c, Comp n l o c ↔ c = o := fun c => by
   constructor
   ·rintro ⟨q, hq, rfl⟩
    have := hq.2
    rw [List.length_append] at this
    rw [List.eq_nil_of_length_eq_zero (show q.length = 0 by omega), List.append_nil]
   ·rintro rfl
    exact ⟨[], ⟨by rw [List.append_nil]; exact ho, by rw [List.append_nil]; omega⟩, by rw [List.append_nil]⟩
  have hone : o ≠ [] := fun e => by subst e; simp at hd; omega
  have hol : o.length ≠ 0 := fun e => hone (List.eq_nil_of_length_eq_zero e)
  have hj : ∀ b : List Int, EvP (fun k => swarfref29_better.j0 k n l tl o b false) (fun r => r = o) := fun b => by
   refine EvP.stop o (fun k => ?_) rfl
   simp only [swarfref29_better.j0]
   rw [if_neg (by decide), if_pos (by omega), if_neg hol]
   simp only [Option.bind_some, List.nil_append]
   rw [if_pos (by simp; omega)]
  rcases hs with ⟨rfl, hno⟩ | ⟨hb, hw⟩
  ·refine EvP.step (f := fun k => swarfref29_better.j0 k n l tl o [] false) (fun k => ?_) ((hj []).mono (fun r hr => ?_))
   ·simp only [swarfref29_better.f]
    rw [if_pos (by simp)]
   ·subst hr
    refine .inr ⟨hone, .inr ((hcomp _).2 rfl), fun q hq => ?_⟩
    rcases hq with hq | hq
    ·exact absurd hq (hno q)
    ·rw [(hcomp q).1 hq]
     exact ⟨Int.le_refl _, fun _ => .inl rfl⟩
  ·have hbf := hP b hw.1
   have hbl := hbf.2
   rw [List.nil_append] at hbl
   refine EvP.step (f := fun k => (swarfref29_Changes.f k o tl).bind fun t238 => ((swarfref29_Changes.f k b tl).bind fun t239 => (swarfref29_better.j0 k n l tl o b (decide (t238 ≥ t239))))) (fun k => ?_) ?_
   ·simp only [swarfref29_better.f]
    rw [if_neg (fun e => hb (List.eq_nil_of_length_eq_zero e))]
   ·refine EvP.bind (rchanges_ev o tl (by omega)) (EvP.bind (rchanges_ev b tl (by omega)) ?_)
    rw [lst_chgs htl ho, lst_chgs (o := b) htl hbf.1]
    by_cases c : cst tl (-1) o ≥ cst tl (-1) b
    ·rw [decide_eq_true c]
     refine EvP.stop b (fun k => ?_) (.inr ⟨hb, .inl hw.1, fun q hq => ?_⟩)
     ·simp only [swarfref29_better.j0]
      rw [if_pos trivial]
     ·rcases hq with hq | hq
      ·exact hw.2 q hq
      ·exact ⟨by rw [(hcomp q).1 hq]; omega, fun _ => .inr (hlt b q hw.1 hq)⟩
    ·rw [decide_eq_false c]
     refine (hj b).mono (fun r hr => ?_)
     subst hr
     refine .inr ⟨hone, .inr ((hcomp _).2 rfl), fun q hq => ?_⟩
     rcases hq with hq | hq
     ·have := (hw.2 q hq).1
      exact ⟨by omega, fun e => by omega⟩
     ·rw [(hcomp q).1 hq]
      exact ⟨Int.le_refl _, fun _ => .inl rfl⟩
 | succ d ih =>
  intro o ho hd P b hP hlt hs
  have hj : ∀ b : List Int, St tl P b → EvP (fun k => swarfref29_better.j0 k n l tl o b false) (St tl (fun c => P c ∨ Comp n l o c)) := fun b hs => by
   refine EvP.step (f := fun k => swarfref29_better.l0 k n l tl o b 0) (fun k => ?_) (bet_l0 (tl := tl) ⟨by omega, hn.2⟩ hl o ho (by omega) (fun i hc => ih (o ++ [i]) (ho.snoc hc) (by rw [List.length_append, List.length_singleton]; omega)) P hP hlt n.toNat 0 b (by omega) (by omega) (hs.congr (fun c => ⟨.inl, fun h => h.elim id (fun ⟨x, q, hx, hf, _⟩ => by have := hf.can.1.1; omega)⟩)))
   simp only [swarfref29_better.j0]
   rw [if_neg (by decide), if_neg (by omega)]
  rcases hs with ⟨rfl, hno⟩ | ⟨hb, hw⟩
  ·refine EvP.step (f := fun k => swarfref29_better.j0 k n l tl o [] false) (fun k => ?_) (hj [] (.inl ⟨rfl, hno⟩))
   simp only [swarfref29_better.f]
   rw [if_pos (by simp)]
  ·have hbf := hP b hw.1
   have hbl := hbf.2
   rw [List.nil_append] at hbl
   refine EvP.step (f := fun k => (swarfref29_Changes.f k o tl).bind fun t238 => ((swarfref29_Changes.f k b tl).bind fun t239 => (swarfref29_better.j0 k n l tl o b (decide (t238 ≥ t239))))) (fun k => ?_) ?_
   ·simp only [swarfref29_better.f]
    rw [if_neg (fun e => hb (List.eq_nil_of_length_eq_zero e))]
   ·refine EvP.bind (rchanges_ev o tl (by omega)) (EvP.bind (rchanges_ev b tl (by omega)) ?_)
    rw [lst_chgs htl ho, lst_chgs (o := b) htl hbf.1]
    by_cases c : cst tl (-1) o ≥ cst tl (-1) b
    ·rw [decide_eq_true c]
     refine EvP.stop b (fun k => ?_) (.inr ⟨hb, .inl hw.1, fun q hq => ?_⟩)
     ·simp only [swarfref29_better.j0]
      rw [if_pos trivial]
     ·rcases hq with hq | hq
      ·exact hw.2 q hq
      ·refine ⟨?_, fun _ => .inr (hlt b q hw.1 hq)⟩
       obtain ⟨z, _, rfl⟩ := hq
       rw [cst_append]
       have := cst_nonneg tl z (o.getLastD (-1))
       omega
    ·rw [decide_eq_false c]
     exact hj b (.inr ⟨hb, hw⟩)
end
theorem rbest_ev (n : Int) (l : List S47) (tl : List Int) (hl : l.length ≤ 100000000000000) : EvP (fun k => swarfref29_Best.f k n l tl) (BestOk n l tl) := by
 unfold swarfref29_Best.f
 refine EvP.bind (rvalid_ev n l hl) ?_
 by_cases z : vErr n l = 0
 ·simp only [if_pos z]
  obtain ⟨k1, k2, k3, k4⟩ := vErr_zero z
  by_cases c : (tl.length : Int) = n
  ·simp only [if_pos c]
   by_cases c2 : n > 16
   ·simp only [if_pos c2]
    exact ⟨_, Ev.now _, .inr (.inr (.inl ⟨z, c, c2, rfl⟩))⟩
   ·simp only [if_neg c2]
    refine EvP.bindP (cyclic_ev z) (fun r hr => ?_)
    cases r with
    | true =>
     simp only [if_true]
     exact ⟨_, Ev.now _, .inr (.inr (.inr (.inl ⟨z, c, by omega, hr.1 rfl, rfl⟩)))⟩
    | false =>
     simp only [Bool.false_eq_true, if_false]
     have ha : Acyc (Rl l) := by
      by_cases h : Acyc (Rl l)
      ·exact h
      ·exact absurd (hr.2 h) (by decide)
     by_cases c3 : n = 0
     ·simp only [if_pos c3]
      refine ⟨_, Ev.now _, .inr (.inr (.inr (.inr ⟨z, c, by omega, ha, rfl, ⟨⟨Lst.nil n l, by simp [c3]⟩, fun q hq => ?_⟩, rfl⟩)))⟩
      have h1 := hq.2
      rw [List.nil_append] at h1
      have h2 : q = [] := List.eq_nil_of_length_eq_zero (by omega)
      subst h2
      exact ⟨Int.le_refl _, fun _ => .inl rfl⟩
     ·simp only [if_neg c3]
      refine EvP.bindP (bet_ev ⟨by omega, by omega⟩ k3 c n.toNat [] (Lst.nil n l) (by simp; omega) (fun _ => False) [] (fun p hp => hp.elim) (fun p _ hp _ => hp.elim) (.inl ⟨rfl, fun q hq => hq⟩)) (fun r hr2 => ?_)
      obtain ⟨q0, hq0, _⟩ := fin_ex k4 ha n.toNat (Lst.nil n l) (by simp; omega)
      have hfirst : First n l tl r := by
       rcases hr2 with ⟨_, hno⟩ | ⟨_, hw⟩
       ·exact absurd (.inr ⟨q0, hq0, rfl⟩) (hno ([] ++ q0))
       ·refine ⟨hw.1.elim False.elim comp_full, fun q hq => hw.2 q (.inr ⟨q, hq, rfl⟩)⟩
      have hrl := hfirst.1.2
      rw [List.nil_append] at hrl
      refine EvP.bind (rchanges_ev r tl (by omega)) ⟨_, Ev.now _, .inr (.inr (.inr (.inr ⟨z, c, by omega, ha, rfl, hfirst, lst_chgs c hfirst.1.1⟩)))⟩
  ·simp only [if_neg c]
   exact ⟨_, Ev.now _, .inr (.inl ⟨z, c, rfl⟩)⟩
 ·simp only [if_neg z]
  exact ⟨_, Ev.now _, .inl ⟨z, rfl⟩⟩
theorem BestOk.uniq {n : Int} {l : List S47} {tl : List Int} {t u : List Int × Int × Int} (ht : BestOk n l tl t) (hu : BestOk n l tl u) : t = u := by
 rcases ht with ⟨h1, rfl⟩ | ⟨h1, h2, rfl⟩ | ⟨h1, h2, h3, rfl⟩ | ⟨h1, h2, h3, h4, rfl⟩ | ⟨h1, h2, h3, h4, h5, h6, h7⟩ <;> rcases hu with ⟨k1, rfl⟩ | ⟨k1, k2, rfl⟩ | ⟨k1, k2, k3, rfl⟩ | ⟨k1, k2, k3, k4, rfl⟩ | ⟨k1, k2, k3, k4, k5, k6, k7⟩
 all_goals first
  | rfl
  | (exfalso; omega)
  | contradiction
  | skip
 ·have e := h6.uniq k6
  exact Prod.ext e (Prod.ext (by rw [h7, k7, e]) (h5.trans k5.symm))
theorem BestOk.len {n : Int} {l : List S47} {tl : List Int} {t : List Int × Int × Int} (ht : BestOk n l tl t) : t.1.length ≤ 200 := by
 rcases ht with ⟨h1, rfl⟩ | ⟨h1, h2, rfl⟩ | ⟨h1, h2, h3, rfl⟩ | ⟨h1, h2, h3, h4, rfl⟩ | ⟨h1, h2, h3, h4, h5, h6, h7⟩
 ·simp
 ·simp
 ·simp
 ·simp
 ·have := h6.1.2
  rw [List.nil_append] at this
  omega
end Go.Proofs.Ytbbkclcfmcjlgaa.B



namespace Go.Proofs.Ytbbkclcfmcjlgaa.B
open Go.RowKit Go.Proofs.Ytbbkclcfmcjlgaa.P Go.Proofs.Ytbbkclcfmcjlgaa.Gr Go.Proofs.YtbbkclcfmcjlgaaW.PrintWords Go.Proofs.YtbbkclcfmcjlgaaW.PrintLast Go.Proofs.YtbbkclcfmcjlgaaW.PrintMore
set_option linter.unusedVariables false
set_option linter.unusedSimpArgs false
theorem blaw_j0 (n : Int) (l : List S47) (tl : List Int) (b : Bool) (h : b = false → l.length ≤ 60 ∧ tl.length ≤ 30) : EvP (fun k => swarflaw29_PrecedenceBest.j0 k n l tl b) (fun r => r = true) := by
 cases b with
 | true =>
  refine EvP.step (f := fun k => (swarflaw29_awake.f k).bind fun t => some t) (fun k => ?_) (EvP.bind awake_ev ⟨true, Ev.now _, rfl⟩)
  simp only [swarflaw29_PrecedenceBest.j0]
  rw [if_pos trivial]
 | false =>
  obtain ⟨hl, htl⟩ := h rfl
  refine EvP.step (f := fun k => (precedence_Best.f k n l tl).bind fun bt277 => ((swarfref29_Best.f k n l tl).bind fun bt282 => (if bt277.2.2 = bt282.2.2 then (if bt277.2.1 = bt282.2.1 then ((swarfref29_Ints.f k bt277.1 bt282.1).bind fun t287 => (some t287)) else (some false)) else (some false)))) (fun k => ?_) ?_
  ·simp only [swarflaw29_PrecedenceBest.j0]
   rw [if_neg (by decide), cp_eq l (by omega)]
   simp only [Option.bind_some, List.nil_append]
   rw [if_pos (by simp; omega)]
  ·refine EvP.bindP (best_ev n l tl (by omega)) (fun t ht => EvP.bindP (rbest_ev n l tl (by omega)) (fun u hu => ?_))
   have e := ht.uniq hu
   subst e
   simp only [if_true]
   exact EvP.bind (ints_ev t.1 t.1 (by have := ht.len; omega)) ⟨_, Ev.now _, by simp⟩
theorem PrecedenceBest (n : Int) (l : List S47) (tl : List Int) : ∃ k, swarflaw29_PrecedenceBest.f k n l tl = some true := by
 have hev : ∀ {g : Nat → Option Bool}, EvP g (fun r => r = true) → Ev g true := fun h => by
  obtain ⟨r, h1, rfl⟩ := h
  exact h1
 refine Ev.rounds (g := fun k => swarflaw29_PrecedenceBest.f k n l tl) (hev ?_)
 unfold swarflaw29_PrecedenceBest.f
 refine EvP.bind awake_ev ?_
 simp only [if_true]
 by_cases c : (l.length : Int) > 60
 ·simp only [if_pos c]
  exact blaw_j0 n l tl true (fun h => by cases h)
 ·simp only [if_neg c]
  by_cases c2 : (tl.length : Int) > 30
  ·simp only [if_pos c2]
   exact blaw_j0 n l tl true (fun h => by cases h)
  ·simp only [if_neg c2]
   by_cases c3 : n > 7
   ·simp only [if_pos c3]
    exact blaw_j0 n l tl _ (fun _ => by omega)
   ·simp only [if_neg c3]
    exact blaw_j0 n l tl false (fun _ => by omega)
end Go.Proofs.Ytbbkclcfmcjlgaa.B
