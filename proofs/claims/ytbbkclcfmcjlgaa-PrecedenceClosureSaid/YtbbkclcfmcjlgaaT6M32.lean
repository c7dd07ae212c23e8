import Derived.Test.YtbbkclcfmcjlgaaT6M31
import Derived.Test.YtbbkclcfmcjlgaaT6M21
import Derived.Test.YtbbkclcfmcjlgaaT6M30
import Derived.Test.YtbbkclcfmcjlgaaT6M25
import Derived.Test.YtbbkclcfmcjlgaaT6M29


namespace Go.Proofs.Ytbbkclcfmcjlgaa.P
open Go.RowKit Go.Proofs.YtbbkclcfmcjlgaaW.PrintWords Go.Proofs.YtbbkclcfmcjlgaaW.PrintLast Go.Proofs.YtbbkclcfmcjlgaaW.PrintMore
set_option linter.unusedVariables false
set_option linter.unusedSimpArgs false

def gfL (m : List Int) (x y : Int) : Option Bool := if 0 ≤ x ∧ x < m.length ∧ 0 ≤ y ∧ y < m.length then some (decide (rd m x > rd m y)) else none
def lin.l0 (n : Int) (l : List S47) (o : List Int) : Nat → Int → List Int → Option Bool
 | 0, _, _ => none
 | k + 1, i, m => if i < (o.length : Int) then (if 0 ≤ i then (if rd o i < 0 then some false else if rd o i ≥ n then some false else if rd o i < (m.length : Int) then (if rd m (rd o i) > 0 then some false else lin.l0 n l o k (wrap64 (i + 1)) (m.set (rd o i).toNat (wrap64 (i + 1)))) else none) else none) else (idx.l0 (gfL m) l k 0).bind fun r => some (!(decide (r ≥ 0)))
def precedence_Linear.f (k : Nat) (n : Int) (l : List S47) (o : List Int) : Option Bool := (precedence_Valid.f k n l).bind fun e => if e = 0 then (if (o.length : Int) = n then (if 0 ≤ n then (if n.toNat ≤ 35184372088832 then lin.l0 n l o k 0 (List.replicate n.toNat 0) else none) else none) else some false) else some false
set_option maxHeartbeats 8000000 in
set_option maxRecDepth 100000 in
theorem precedence_Linear.calls (k : Nat) (n : Int) (A1 : Option Addr) (c1 : Nat) (l : List S47) (A2 : Option Addr) (c2 : Nat) (o : List Int) (r : Bool) (w : World) (hr1 : Kd.C k47 w A1 l.length l) (hc1 : l.length ≤ c1) (hr2 : Kd.C (Kd.int .i64) w A2 o.length o) (hc2 : o.length ≤ c2) (h : precedence_Linear.f k n l o = some r) :
  Calls Try.prog 18 #[.int .i64 n, .slice A1 l.length c1, .slice A2 o.length c2] w fun e w' => e = .returned (.bool r) ∧ Below w.heap.size w w' := by
 have HR1 := aK hr1
 have HC1 := aK hc1
 have HR2 := aK hr2
 have HC2 := aK hc2
 clear hr1 hc1 hr2 hc2
 unfold precedence_Linear.f at h
 obtain ⟨e, he, H⟩ := oB_ h
 have HE := aK he
 clear h he
 have HB := aK (Below.refl w.heap.size w)
 by_cases z : e = 0
 ·rw [if_pos z] at H; subst z
  by_cases z1 : (o.length : Int) = n
  ·rw [if_pos z1] at H
   have z1b : ((o.length : Int) != n) = false := bne_eq_false_iff_eq.mpr z1
   have z1c : ((o.length : Int) == n) = true := beq_iff_eq.mpr z1
   by_cases z2 : 0 ≤ n
   ·rw [if_pos z2] at H
    by_cases z3 : n.toNat ≤ 35184372088832
    ·rw [if_pos z3] at H
     obtain ⟨y, hy⟩ : ∃ y : List Int, y = List.replicate n.toNat 0 := ⟨_, rfl⟩
     rw [← hy] at H; have NY := aK hy; clear hy; have H' := aK H; have Z2 := aK z2; have Z3 := aK z3
     have z2' := eq_true z2
     clear H z1 z2 z3
     go_enter Try.func18, Try.ntmps18
     go_wp2_with (first | (go_at_call 20; go_must ((with_reducible refine (precedence_Valid.calls k n _ _ l 0 _ ?s1 ?s2 HE.out).mono ?_); (case s1 => exact HR1.out); (case s2 => exact HC1.out); rintro e w8 ⟨rfl, hb⟩; have n_ := aK hb; clear HB hb; have HB := n_; clear n_)) | ((with_reducible refine gate_dst (N := 21) rfl ?_); go_must (refine Kd.R_make (Kd.int .i64) _ 3 rfl (N := 21) rfl 31 _ _ rfl n rfl rfl Try.underlying31 (.int .i64 0) 8 info3 rfl (by decide) (by omega) 0 (ok := fun _ => True) (okp := fun _ => True) rfl (fun _ hk => hk) trivial Z2.out (Nat.le_trans (Nat.mul_le_mul_right _ Z3.out) (by omega)) (Below.refl _ _) (Nat.le_refl _) ?_; intro va w9 ho hb hg_ hnew_; clear hg_ hnew_; rw [← NY.out] at ho; have n0_ := aK (Kd.R_lower ho (bZ_ (HB.out))); have n1_ := aK (bT_ HB.out hb); clear HB ho hb; have HO := n0_; have HB := n1_; clear n0_ n1_)) | ((with_reducible refine gate_dst (N := 7) rfl ?_); go_must (refine box_event ?hg (N := 7) ?hd (cs := #[.slice none 0 0]) (t := 31) ?hr ?_; (case hd => rfl); (case hg => rfl); (case hr => first | (go_simp; done) | (go_simp; rfl)); intro g hg w10 hbox hb; have n0_ := aK (Kd.R_types (Kd.R_below HO.out hb) hbox (by decide)); have n1_ := aK (bT_ HB.out hb); have GB := aK (by rw [hg]; exact bZ_ HB.out : w.heap.size ≤ g); have BK := aK hbox; have hfz := blk_frozen hbox 0; have hzz : w10.cell? ⟨g, 0, none⟩ = some (.slice none 0 0) := (blk_cell hbox 0).trans rfl; clear HO HB hb hbox hg; have HO := n0_; have HB := n1_; clear n0_ n1_; obtain ⟨Av, cv, ev⟩ := Kd.R_slice HO.out; subst ev)))
     go_loopg [24] k (fun kq v24 w' => ∃ (i : Int) (m : List Int), v24 = .int .i64 i ∧ Aside0 (lin.l0 n l o kq i m = some r) ∧ Aside0 (kq ≤ k) ∧ Aside0 (Kd.R (Kd.int .i64) 3 w' w.heap.size (fun k_ => True ∧ k_ ≠ g) (.slice Av y.length cv) m) ∧ Aside0 (w'.heap[g]? = some (.cells #[.slice Av y.length cv] 31 (0, 0))) ∧ Aside0 (Below w.heap.size w w'))
     case atStart => exact ⟨0, y, rfl, H', ⟨Nat.le_refl _⟩, ⟨Kd.R_far (p := ⟨g, 0, none⟩) HO.out (fun _ hk => hk.2) _⟩, ⟨blk_put (cs := #[.slice none 0 0]) BK.out 0 _ rfl⟩, ⟨below_set HB.out GB.out⟩⟩
     case round =>
      clear H' HO BK HB hfz hzz
      obtain ⟨i, m, rfl, HA, HK1, HO, BK, HB⟩ := hrel
      cases gk with
      | zero => exact absurd HA.out (by simp [lin.l0])
      | succ k1 =>
       have H := HA.out
       clear HA
       simp only [lin.l0] at H
       have hcz : wr.cell? ⟨g, 0, none⟩ = some (.slice Av y.length cv) := (blk_cell BK.out 0).trans rfl
       by_cases q1 : i < (o.length : Int)
       ·rw [if_pos q1] at H
        by_cases q2 : 0 ≤ i
        ·rw [if_pos q2] at H
         obtain ⟨ad, e, hx⟩ := Kd.at_int HR2.out i q2 q1
         cases e
         replace hx := (HB.out.cell (World.block_lt_of_cell? w _ hx)).trans hx
         generalize rd o i = v at H hx
         have q1b := decide_eq_true q1
         have q1' := eq_true q1
         have q2' := eq_true q2
         clear q1 q2
         by_cases r1 : v < 0
         ·rw [if_pos r1] at H; obtain rfl := Option.some.inj H
          have r1b := decide_eq_true r1
          clear r1; go_wp2; go_ret
          exact ⟨rfl, (by repeat (first | (with_reducible first | exact HB.out | apply bA_ | apply bN_ | apply bD_) | exact HB.out))⟩
         ·rw [if_neg r1] at H
          have r1b := decide_eq_false r1
          have r1c := eq_true (show 0 ≤ v by omega)
          by_cases r2 : v ≥ n
          ·rw [if_pos r2] at H; obtain rfl := Option.some.inj H
           have r2b := decide_eq_true r2
           have r2c : decide (n ≤ v) = true := decide_eq_true r2
           clear r1 r2; go_wp2; go_ret
           exact ⟨rfl, (by repeat (first | (with_reducible first | exact HB.out | apply bA_ | apply bN_ | apply bD_) | exact HB.out))⟩
          ·rw [if_neg r2] at H
           have r2b := decide_eq_false r2
           have r2c : decide (n ≤ v) = false := decide_eq_false r2
           by_cases r3 : v < (m.length : Int)
           ·rw [if_pos r3] at H
            obtain ⟨hl1, hl2, hl3⟩ := Kd.R_reads' HO.out
            have r3' : v < (y.length : Int) := by omega
            have v0 : 0 ≤ v := by omega
            obtain ⟨go, co, eo, gb, gl, cl, HG⟩ := Kd.R_form HO.out (by omega)
            injection eo with e1 e2 e3
            subst e1; subst e3
            obtain ⟨hm0, hf⟩ := Kd.R_celln 0 HO.out v v0 r3'
            have hm : wr.cell? ⟨go, v.toNat, none⟩ = some (.int .i64 (rd m v)) := hm0
            clear hm0
            have HP := Kd.R_putg HO.out v (wrap64 (i + 1))
            have hgo := HO.out.1 _ rfl
            have GO := aK gb
            have v1' := eq_true r3'
            clear r1 r2 r3 r3' v0 e2 hl1 hl2 hl3 gb gl HG
            by_cases r4 : rd m v > 0
            ·rw [if_pos r4] at H; obtain rfl := Option.some.inj H
             have r4b := decide_eq_true r4
             have r4c : decide (0 < rd m v) = true := decide_eq_true r4
             clear r4 HP; go_wp2; go_ret
             exact ⟨rfl, (by repeat (first | (with_reducible first | exact HB.out | apply bA_ | apply bN_ | apply bD_) | exact HB.out))⟩
            ·rw [if_neg r4] at H
             have r4b := decide_eq_false r4
             have r4c : decide (0 < rd m v) = false := decide_eq_false r4
             have H' := aK H; clear H r4
             go_wp2_with ((with_reducible refine gate_store (t := 3) (p := 47) rfl ?_); go_must (refine store_event (t := 3) (p := 47) (v := ?vo_) (w1 := (wr.setCell ⟨go, v.toNat, none⟩ (.int .i64 (wrap64 (i + 1))))) ?hg ?ho ?hn ?hr ?_; (case ho => rfl); (case hg => rfl); (case hn => rfl); (case hr => first | (go_simp; done) | (go_simp; rfl)); intro w45 hw; have n0_ := aK (show Kd.R (Kd.int .i64) 3 w45 w.heap.size (fun k_ => True ∧ k_ ≠ g) (.slice (some ⟨go, 0, none⟩) y.length cv) (m.set v.toNat (wrap64 (i + 1))) from (by rw [hw]; exact HP.1)); have n1_ := aK (show w45.heap[g]? = some (.cells #[.slice (some ⟨go, 0, none⟩) y.length cv] 31 (0, 0)) from (by rw [hw]; exact blk_far (p := ⟨go, v.toNat, none⟩) BK.out (fun e_ => hgo.2 e_.symm) _)); have n2_ := aK (show Below w.heap.size w w45 from (by rw [hw]; exact below_set HB.out GO.out)); clear HO BK HB HP hcz hm hf hw; have HO := n0_; have BK := n1_; have HB := n2_; clear n0_ n1_ n2_))
             go_roundg k1
             case measure => have := HK1.out; omega
             case rel => exact ⟨wrap64 (i + 1), m.set v.toNat (wrap64 (i + 1)), (by first | rfl | (simp; done)), H', ⟨by have := HK1.out; omega⟩, ⟨by (with_reducible repeat (first | apply Kd.R_alloc | apply Kd.R_drewN | apply Kd.R_drew)); exact HO.out⟩, ⟨BK.out⟩, ⟨(by repeat (first | (with_reducible first | exact HB.out | apply bA_ | apply bN_ | apply bD_) | exact HB.out))⟩⟩
           ·rw [if_neg r3] at H; cases H
        ·rw [if_neg q2] at H; cases H
       ·rw [if_neg q1] at H
        have q1b := decide_eq_false q1
        clear q1
        obtain ⟨x, hx, H⟩ := oB_ H
        obtain rfl := Option.some.inj H
        obtain ⟨hl1, hl2, hl3⟩ := Kd.R_reads' HO.out
        have HX := aK hx
        have hclo : ∀ (a b : Int) (t : Bool) (W : World), Below wr.heap.size wr W → gfL m a b = some t → Calls Try.prog 39 #[.agg #[.int .i64 a, .int .i64 b], .pointer (some ⟨g, 0, none⟩)] W fun e w' => e = .returned (.bool t) ∧ Below W.heap.size W w' := by
         intro a b t W hbW hgf
         unfold gfL at hgf
         split at hgf
         ·rename_i hc
          obtain rfl := Option.some.inj hgf
          have hgW : W.heap[g]? = some (.cells #[.slice Av m.length cv] 31 (0, 0)) := by
           rw [← hl1]; exact (hbW.block g (blk_lt BK.out)).trans BK.out
          exact clo39 a b g Av cv m W hgW (Kd.C_below hl3 hbW) hc.1 hc.2.1 hc.2.2.1 hc.2.2.2
         ·cases hgf
        have HCL := aK (contains39 (gfL m) (.pointer (some ⟨g, 0, none⟩)) k1 A1 c1 l x wr (Kd.C_below HR1.out HB.out) hclo hx)
        have hmf : ∀ (fn : Fn) (first cap : Array Value) (w : World), (Instr.makeFunc fn first cap).run Try.prog w = .ok (.func fn first cap) w := fun _ _ _ _ => rfl
        clear hclo hl1 hl2 hl3 hx
        go_wp2_with (go_at_call 38; go_must (refine HCL.out.mono ?_; rintro e w' ⟨rfl, hb⟩; have n_ := aK (bT_ HB.out hb); clear HB hb; have HB := n_; clear n_))
        go_ret
        exact ⟨by first | rfl | (simp; done), (by repeat (first | (with_reducible first | exact HB.out | apply bA_ | apply bN_ | apply bD_) | exact HB.out))⟩
    ·rw [if_neg z3] at H; cases H
   ·rw [if_neg z2] at H; cases H
  ·rw [if_neg z1] at H; obtain rfl := Option.some.inj H
   have z1b : ((o.length : Int) != n) = true := bne_iff_ne.mpr z1
   have z1c : ((o.length : Int) == n) = false := beq_eq_false_iff_ne.mpr z1
   go_enter Try.func18, Try.ntmps18
   go_wp2_with (go_at_call 20; go_must ((with_reducible refine (precedence_Valid.calls k n _ _ l 0 _ ?s1 ?s2 HE.out).mono ?_); (case s1 => exact HR1.out); (case s2 => exact HC1.out); rintro e w8 ⟨rfl, hb⟩; have n_ := aK hb; clear HB hb; have HB := n_; clear n_))
   go_ret
   exact ⟨rfl, by exact HB.out⟩
 ·rw [if_neg z] at H; obtain rfl := Option.some.inj H
  have zb : (e != 0) = true := bne_iff_ne.mpr z
  have zc : (e == 0) = false := beq_eq_false_iff_ne.mpr z
  go_enter Try.func18, Try.ntmps18
  go_wp2_with (go_at_call 20; go_must ((with_reducible refine (precedence_Valid.calls k n _ _ l e _ ?s1 ?s2 HE.out).mono ?_); (case s1 => exact HR1.out); (case s2 => exact HC1.out); rintro e w8 ⟨rfl, hb⟩; have n_ := aK hb; clear HB hb; have HB := n_; clear n_))
  go_ret
  exact ⟨rfl, by exact HB.out⟩
theorem idx.mono (gf : Int → Int → Option Bool) (l : List S47) : ∀ k i, LeO (idx.l0 gf l k i) (idx.l0 gf l (k + 1) i) := by
 intro k
 induction k with
 | zero => intro i; exact LeO.none _
 | succ k ih =>
  intro i
  unfold idx.l0
  refine LeO.ite (LeO.ite (LeO.bind (LeO.refl _) (fun t => LeO.ite (LeO.refl _) (ih _))) (LeO.none _)) (LeO.refl _)
theorem lin.mono (n : Int) (l : List S47) (o : List Int) : ∀ k i m, LeO (lin.l0 n l o k i m) (lin.l0 n l o (k + 1) i m) := by
 intro k
 induction k with
 | zero => intro i m; exact LeO.none _
 | succ k ih =>
  intro i m
  unfold lin.l0
  refine LeO.ite (LeO.ite (LeO.ite (LeO.refl _) (LeO.ite (LeO.refl _) (LeO.ite (LeO.ite (LeO.refl _) (ih _ _)) (LeO.none _)))) (LeO.none _)) (LeO.bind (idx.mono _ _ _ _) (fun r => LeO.refl _))
end Go.Proofs.Ytbbkclcfmcjlgaa.P



namespace Go.Proofs.Ytbbkclcfmcjlgaa.B
open Go.RowKit Go.Proofs.Ytbbkclcfmcjlgaa.P Go.Proofs.Ytbbkclcfmcjlgaa.Gr Go.Proofs.YtbbkclcfmcjlgaaW.PrintWords Go.Proofs.YtbbkclcfmcjlgaaW.PrintLast Go.Proofs.YtbbkclcfmcjlgaaW.PrintMore
set_option linter.unusedVariables false
set_option linter.unusedSimpArgs false

theorem Lst.take {n : Int} {l : List S47} {o : List Int} (h : Lst n l o) (i : Nat) : Lst n l (o.take i) := by
 refine ⟨h.1.sublist (List.take_sublist _ _), fun x hx => h.2.1 x (List.mem_of_mem_take hx), fun k x hx j hj => ?_⟩
 rw [List.getElem?_take] at hx
 split at hx
 ·rename_i hk
  rw [List.take_take, Nat.min_eq_left (by omega)]
  exact h.2.2 k x hx j hj
 ·cases hx
end Go.Proofs.Ytbbkclcfmcjlgaa.B



namespace Go.Proofs.Ytbbkclcfmcjlgaa.B
open Go.RowKit Go.Proofs.Ytbbkclcfmcjlgaa.P Go.Proofs.Ytbbkclcfmcjlgaa.Gr Go.Proofs.YtbbkclcfmcjlgaaW.PrintWords Go.Proofs.YtbbkclcfmcjlgaaW.PrintLast Go.Proofs.YtbbkclcfmcjlgaaW.PrintMore
set_option linter.unusedVariables false
set_option linter.unusedSimpArgs false

theorem mt_out {m : List (List Bool)} {a b : Int} (h : ((rd_L7 m a).length : Int) ≤ b) : mt m a b = false := by
 unfold mt rdOf
 rw [List.getD_eq_getElem?_getD, List.getElem?_eq_none (by omega)]; rfl
theorem mt_same {m m' : List (List Bool)} {a : Int} (h : rd_L7 m' a = rd_L7 m a) (b : Int) : mt m' a b = mt m a b := by unfold mt; rw [h]
def Row (n i : Int) (m m' : List (List Bool)) : Prop := m'.length = m.length ∧ ((rd_L7 m' i).length : Int) = n ∧ ∀ a, 0 ≤ a → a ≠ i → rd_L7 m' a = rd_L7 m a
theorem Row.trans {n i : Int} {m m' m'' : List (List Bool)} (h : Row n i m m') (k : Row n i m' m'') : Row n i m m'' :=
 ⟨k.1.trans h.1, k.2.1, fun a a0 ha => (k.2.2 a a0 ha).trans (h.2.2 a a0 ha)⟩
theorem Row.set {n i : Int} {m : List (List Bool)} (i0 : 0 ≤ i) (i1 : i < (m.length : Int)) (r : List Bool) (hr : (r.length : Int) = n) : Row n i m (m.set i.toNat r) :=
 ⟨by rw [List.length_set], by rw [rd_set_self _ _ _ i0 i1]; exact hr, fun a a0 ha => rd_set_ne _ _ _ _ i0 a0 ha⟩
theorem st_row {n i : Int} {m : List (List Bool)} (i0 : 0 ≤ i) (i1 : i < (m.length : Int)) (hr : ((rd_L7 m i).length : Int) = n) {j : Int} (j0 : 0 ≤ j) (j1 : j < n) (v : Bool) : Row n i m (st m i j v) ∧ ∀ b, 0 ≤ b → mt (st m i j v) i b = if b = j then v else mt m i b := by
 refine ⟨Row.set i0 i1 _ (by rw [List.length_set]; exact hr), fun b b0 => ?_⟩
 unfold mt st
 rw [rd_set_self _ _ _ i0 i1]
 by_cases e : b = j
 ·subst e; rw [if_pos rfl, of_set_self _ _ _ j0 (by omega)]
 ·rw [if_neg e, of_set_ne _ _ _ _ j0 b0 e]
theorem or_ok {n i k : Int} (hik : k ≠ i) (i0 : 0 ≤ i) (k0 : 0 ≤ k) (d : Nat) : ∀ (j : Int) (m : List (List Bool)), 0 ≤ j → j + d = n → i < (m.length : Int) → ((rd_L7 m i).length : Int) = n → Row n i m (reach.or i k d j m) ∧ ∀ b, 0 ≤ b → b < n → mt (reach.or i k d j m) i b = if j ≤ b then (mt m i b || mt m k b) else mt m i b := by
 induction d with
 | zero =>
  intro j m j0 hj i1 hr
  exact ⟨⟨rfl, hr, fun _ _ _ => rfl⟩, fun b b0 b1 => by rw [if_neg (by omega)]; rfl⟩
 | succ d ih =>
  intro j m j0 hj i1 hr
  obtain ⟨h1, h2⟩ := st_row i0 i1 hr j0 (by omega) (mt m i j || mt m k j)
  obtain ⟨h3, h4⟩ := ih (j + 1) (st m i j (mt m i j || mt m k j)) (by omega) (by omega) (by rw [h1.1]; exact i1) h1.2.1
  refine ⟨h1.trans h3, fun b b0 b1 => ?_⟩
  have e : reach.or i k (d + 1) j m = reach.or i k d (j + 1) (st m i j (mt m i j || mt m k j)) := rfl
  rw [e, h4 b b0 b1, h2 b b0, mt_same (h1.2.2 k k0 hik) b]
  by_cases e1 : b = j
  ·subst e1; rw [if_neg (by omega), if_pos rfl, if_pos (by omega)]
  ·rw [if_neg e1]
   by_cases e2 : j ≤ b
   ·rw [if_pos (by omega), if_pos e2]
   ·rw [if_neg (by omega), if_neg e2]
theorem one_ok {n i k : Int} (hik : k ≠ i) (i0 : 0 ≤ i) (k0 : 0 ≤ k) (k1 : k < n) (m : List (List Bool)) (i1 : i < (m.length : Int)) (hr : ((rd_L7 m i).length : Int) = n) (hk : ((rd_L7 m k).length : Int) = n) : Row n i m (reach.one i k m) ∧ ∀ b, 0 ≤ b → b < n → (mt (reach.one i k m) i b = true ↔ mt m i b = true ∨ b = k ∨ mt m k b = true) := by
 have e : reach.one i k m = reach.or i k (rd_L7 (st m i k true) k).length 0 (st m i k true) := rfl
 obtain ⟨h1, h2⟩ := st_row i0 i1 hr k0 k1 true
 have hk2 : rd_L7 (st m i k true) k = rd_L7 m k := h1.2.2 k k0 hik
 obtain ⟨h3, h4⟩ := or_ok hik i0 k0 (rd_L7 (st m i k true) k).length 0 (st m i k true) (by omega) (by rw [hk2]; omega) (by rw [h1.1]; exact i1) h1.2.1
 rw [e]
 refine ⟨h1.trans h3, fun b b0 b1 => ?_⟩
 rw [h4 b b0 b1, if_pos b0, h2 b b0, mt_same hk2 b]
 by_cases e1 : b = k
 ·simp [e1]
 ·simp [e1]
theorem row_ok {n i : Int} (i0 : 0 ≤ i) (ks : List Int) : ∀ (m : List (List Bool)), i < (m.length : Int) → ((rd_L7 m i).length : Int) = n → (∀ k ∈ ks, k ≠ i ∧ (0 ≤ k ∧ k < n) ∧ ((rd_L7 m k).length : Int) = n) → Row n i m (reach.row i ks m) ∧ ∀ b, 0 ≤ b → b < n → (mt (reach.row i ks m) i b = true ↔ mt m i b = true ∨ ∃ k ∈ ks, b = k ∨ mt m k b = true) := by
 induction ks with
 | nil => exact fun m i1 hr _ => ⟨⟨rfl, hr, fun _ _ _ => rfl⟩, fun b _ _ => by simp [reach.row]⟩
 | cons k ks ih =>
  intro m i1 hr hks
  have hk := hks k List.mem_cons_self
  obtain ⟨h1, h2⟩ := one_ok hk.1 i0 hk.2.1.1 hk.2.1.2 m i1 hr hk.2.2
  obtain ⟨h3, h4⟩ := ih (reach.one i k m) (by rw [h1.1]; exact i1) h1.2.1 (fun k' hk' => by
   have := hks k' (List.mem_cons_of_mem _ hk')
   rw [h1.2.2 k' this.2.1.1 this.1]
   exact this)
  have e : reach.row i (k :: ks) m = reach.row i ks (reach.one i k m) := rfl
  rw [e]
  refine ⟨h1.trans h3, fun b b0 b1 => ?_⟩
  rw [h4 b b0 b1, h2 b b0 b1]
  have hs : (∃ k' ∈ ks, b = k' ∨ mt (reach.one i k m) k' b = true) ↔ ∃ k' ∈ ks, b = k' ∨ mt m k' b = true := by
   constructor
   ·rintro ⟨k', hk', h⟩
    have := hks k' (List.mem_cons_of_mem _ hk')
    rw [mt_same (h1.2.2 k' this.2.1.1 this.1)] at h
    exact ⟨k', hk', h⟩
   ·rintro ⟨k', hk', h⟩
    have := hks k' (List.mem_cons_of_mem _ hk')
    rw [← mt_same (h1.2.2 k' this.2.1.1 this.1)] at h
    exact ⟨k', hk', h⟩
  rw [hs]
  simp only [List.mem_cons, exists_eq_or_imp, or_assoc]
def Done (n : Int) (R : Int → Int → Prop) (q : List Int) (m : List (List Bool)) : Prop := (m.length : Int) = n ∧ ∀ a ∈ q, ((rd_L7 m a).length : Int) = n ∧ ∀ b, 0 ≤ b → (mt m a b = true ↔ Tc R a b)
theorem step_ok {n : Int} {l : List S47} (hok : ∀ p ∈ l, okp n p = true) {bh : List (List Int)} {q : List Int} {m : List (List Bool)} {i : Int} (hb : rd_L3 bh i = beh l i) (i0 : 0 ≤ i) (i1 : i < n) (hiq : ¬ i ∈ q) (hq0 : ∀ x ∈ q, 0 ≤ x ∧ x < n) (hs : ∀ k, Rl l i k → k ∈ q) (h : Done n (Rl l) q m) : Done n (Rl l) (i :: q) (reach.step n bh m i) := by
 have hl := h.1
 have hin := rl_inn hok
 have hrow : Row n i m (m.set i.toNat (List.replicate n.toNat false)) := Row.set i0 (by omega) _ (by rw [List.length_replicate]; omega)
 have hne : ∀ k ∈ q, k ≠ i := fun k hk e => hiq (e ▸ hk)
 obtain ⟨h1, h2⟩ := row_ok i0 (rd_L3 bh i) (m.set i.toNat (List.replicate n.toNat false)) (by rw [hrow.1]; omega) hrow.2.1 (fun k hk => by
  rw [hb, mem_beh] at hk
  have hkq := hs k hk
  refine ⟨hne k hkq, hq0 k hkq, ?_⟩
  rw [hrow.2.2 k (hq0 k hkq).1 (hne k hkq)]
  exact (h.2 k hkq).1)
 have e : reach.step n bh m i = reach.row i (rd_L3 bh i) (m.set i.toNat (List.replicate n.toNat false)) := rfl
 rw [e]
 have ht := hrow.trans h1
 refine ⟨by rw [ht.1]; exact hl, fun a ha => ?_⟩
 rcases List.mem_cons.1 ha with rfl | ha
 ·refine ⟨h1.2.1, fun b b0 => ?_⟩
  by_cases b1 : b < n
  ·rw [h2 b b0 b1]
   have hf : mt (m.set a.toNat (List.replicate n.toNat false)) a b = false := by
    unfold mt
    rw [rd_set_self _ _ _ i0 (by omega)]
    unfold rdOf
    rw [List.getD_eq_getElem?_getD, List.getElem?_replicate]
    split <;> rfl
   rw [hf, hb]
   constructor
   ·rintro (hx | ⟨k, hk, hx⟩)
    ·cases hx
    ·rw [mem_beh] at hk
     have hkq := hs k hk
     rw [mt_same (hrow.2.2 k (hq0 k hkq).1 (hne k hkq)), (h.2 k hkq).2 b b0] at hx
     exact Tc.of_head hk (hx.imp Eq.symm id)
   ·intro ht
    obtain ⟨k, hk, hx⟩ := ht.head
    have hkq := hs k hk
    refine .inr ⟨k, (mem_beh _ _ _).2 hk, ?_⟩
    rw [mt_same (hrow.2.2 k (hq0 k hkq).1 (hne k hkq)), (h.2 k hkq).2 b b0]
    exact hx.imp Eq.symm id
  ·constructor
   ·intro hx
    rw [mt_out (by rw [h1.2.1]; omega)] at hx
    cases hx
   ·exact fun hx => absurd (hx.inn hin).2.2 b1
 ·rw [ht.2.2 a (hq0 a ha).1 (hne a ha)]
  refine ⟨(h.2 a ha).1, fun b b0 => ?_⟩
  rw [mt_same (ht.2.2 a (hq0 a ha).1 (hne a ha))]
  exact (h.2 a ha).2 b b0
theorem fold_ok {n : Int} {l : List S47} (hok : ∀ p ∈ l, okp n p = true) {bh : List (List Int)} (hb : ∀ i, 0 ≤ i → i < n → rd_L3 bh i = beh l i) {o : List Int} (ho : Lst n l o) (hol : (o.length : Int) = n) (m0 : List (List Bool)) (hm0 : (m0.length : Int) = n) : ∀ (q p : List Int), o = p ++ q → Done n (Rl l) q (q.foldr (fun i m => reach.step n bh m i) m0) := by
 intro q
 induction q with
 | nil => exact fun p _ => ⟨hm0, fun a ha => by cases ha⟩
 | cons i q ih =>
  intro p hp
  have hin := rl_inn hok
  have h1 := ih (p ++ [i]) (by rw [hp, List.append_assoc]; rfl)
  have hnd := ho.1
  rw [hp, List.nodup_append] at hnd
  have hiq := (List.nodup_cons.1 hnd.2.1).1
  have hi := ho.2.1 i (by rw [hp]; simp)
  refine step_ok hok (hb i hi.1 hi.2) hi.1 hi.2 hiq (fun x hx => ho.2.1 x (by rw [hp]; simp [hx])) (fun k hk => ?_) h1
  have hkr := (hin _ _ hk).2
  have hm := full_in ho.1 ho.2.1 hol k hkr.1 hkr.2
  rw [hp] at hm
  rcases List.mem_append.1 hm with hm | hm
  ·exfalso
   obtain ⟨j, hj⟩ := List.getElem?_of_mem hm
   obtain ⟨hjl, _⟩ := List.getElem?_eq_some_iff.1 hj
   have ht := ho.2.2 j k (by rw [hp, List.getElem?_append_left hjl]; exact hj) i hk
   rw [hp, List.take_append_of_le_length (by omega)] at ht
   exact hnd.2.2 i (List.mem_of_mem_take ht) i List.mem_cons_self rfl
  ·rcases List.mem_cons.1 hm with rfl | hm
   ·exact absurd rfl (rl_ne hok hk)
   ·exact hm

def ReOk (n : Int) (l : List S47) (t : List (List Bool) × Int) : Prop :=
 (vErr n l ≠ 0 ∧ t = ([], vErr n l)) ∨ (vErr n l = 0 ∧ ¬ Acyc (Rl l) ∧ t = ([], 12)) ∨ (vErr n l = 0 ∧ Acyc (Rl l) ∧ t.2 = 0 ∧ Tab n (Rl l) t.1)
theorem reach_ev (n : Int) (l : List S47) (hl : l.length ≤ 100000000000000) : EvP (fun f => reach.f f n l) (ReOk n l) := by
 unfold reach.f
 refine EvP.bindP (order_ev n l hl) (fun t ht => ?_)
 rcases ht with ⟨h1, rfl⟩ | ⟨h1, h2, rfl⟩ | ⟨h1, h2, h3, h4, h5⟩
 ·simp only [if_neg h1]
  exact ⟨_, Ev.now _, .inl ⟨h1, rfl⟩⟩
 ·simp only [if_neg (show ¬ (12 : Int) = 0 by decide)]
  exact ⟨_, Ev.now _, .inr (.inl ⟨h1, h2, rfl⟩)⟩
 ·simp only [if_pos h3]
  obtain ⟨k1, k2, k3, k4⟩ := vErr_zero h1
  refine EvP.bindP (read_ev h1) (fun u hu => ?_)
  have hlst := h4.lst
  have e1 : reach.ok n t.1 = true := by
   unfold reach.ok
   rw [List.all_eq_true]
   intro x hx
   have := hlst.2.1 x hx
   simp [this.1, this.2]
  have e2 : u.2.all (reach.ok n) = true := by
   rw [List.all_eq_true]
   intro r hr
   obtain ⟨i, hi⟩ := List.getElem?_of_mem hr
   obtain ⟨hil, hi2⟩ := List.getElem?_eq_some_iff.1 hi
   have h7 := (hu.2.2 (i : Int) (by omega) (by have := hu.2.1; omega)).2
   unfold rd_L3 at h7
   rw [List.getD_eq_getElem?_getD, Int.toNat_natCast, hi] at h7
   unfold reach.ok
   rw [List.all_eq_true]
   intro x hx
   have h8 : x ∈ beh l i := by rw [← h7]; exact hx
   have := ((rl_inn k4) _ _ ((mem_beh _ _ _).1 h8)).2
   simp [this.1, this.2]
  simp only [if_pos (show 0 ≤ n ∧ n.toNat ≤ 11728124029610 ∧ t.1.length ≤ 140737488351232 ∧ (u.2.length : Int) = n ∧ reach.ok n t.1 = true ∧ u.2.all (reach.ok n) = true from ⟨k1, by omega, by omega, hu.2.1, e1, e2⟩)]
  refine ⟨_, Ev.now _, .inr (.inr ⟨h1, h2, rfl, ?_⟩)⟩
  have hf := fold_ok k4 (bh := u.2) (fun i i0 i1 => (hu.2.2 i i0 i1).2) hlst h5 (List.replicate n.toNat []) (by rw [List.length_replicate]; omega) t.1 [] rfl
  rw [← List.foldl_reverse] at hf
  refine ⟨⟨hf.1, fun a a0 a1 => (hf.2 a (full_in hlst.1 hlst.2.1 h5 a a0 a1)).1⟩, fun a b a0 b0 => ?_⟩
  by_cases a1 : a < n
  ·exact (hf.2 a (full_in hlst.1 hlst.2.1 h5 a a0 a1)).2 b b0
  ·constructor
   ·intro hx
    rw [mt_out (by
     have : rd_L7 (List.foldl (reach.step n u.2) (List.replicate n.toNat []) t.1.reverse) a = [] := by
      unfold rd_L7
      rw [List.getD_eq_getElem?_getD, List.getElem?_eq_none (by have := hf.1; omega)]; rfl
     rw [this]; simpa using b0)] at hx
    cases hx
   ·exact fun hx => absurd (hx.inn (rl_inn k4)).1.2 a1

def rowL (T : Int → Int → Bool) (a : Int) : Nat → Int → List S47
 | 0, _ => []
 | d + 1, b => (if T a b = true then [⟨a, b⟩] else []) ++ rowL T a d (b + 1)
def tabL (T : Int → Int → Bool) (n : Int) : Nat → Int → List S47
 | 0, _ => []
 | d + 1, a => rowL T a n.toNat 0 ++ tabL T n d (a + 1)
theorem rowL_len (T : Int → Int → Bool) (a : Int) (d : Nat) : ∀ b, (rowL T a d b).length ≤ d := by
 induction d with
 | zero => exact fun _ => Nat.le_refl _
 | succ d ih =>
  intro b
  have := ih (b + 1)
  unfold rowL
  rw [List.length_append]
  split <;> simp <;> omega
theorem mem_rowL {T : Int → Int → Bool} {a : Int} {p : S47} (d : Nat) : ∀ b, p ∈ rowL T a d b ↔ p.f0 = a ∧ (b ≤ p.f1 ∧ p.f1 < b + d) ∧ T p.f0 p.f1 = true := by
 induction d with
 | zero => intro b; unfold rowL; simp; omega
 | succ d ih =>
  intro b
  unfold rowL
  rw [List.mem_append, ih (b + 1)]
  have e : p ∈ (if T a b = true then [⟨a, b⟩] else [] : List S47) ↔ p = ⟨a, b⟩ ∧ T a b = true := by
   split
   ·rename_i h; simp [h]
   ·rename_i h; simp [h]
  rw [e]
  constructor
  ·rintro (⟨rfl, h⟩ | ⟨h1, h2, h3⟩)
   ·exact ⟨rfl, ⟨by simp, by simp; omega⟩, h⟩
   ·exact ⟨h1, ⟨by omega, by omega⟩, h3⟩
  ·rintro ⟨h1, h2, h3⟩
   by_cases c : p.f1 = b
   ·left
    subst h1 c
    exact ⟨rfl, h3⟩
   ·exact .inr ⟨h1, ⟨by omega, by omega⟩, h3⟩
theorem mem_tabL {T : Int → Int → Bool} {n : Int} {p : S47} (d : Nat) : ∀ a, p ∈ tabL T n d a ↔ (a ≤ p.f0 ∧ p.f0 < a + d) ∧ (0 ≤ p.f1 ∧ p.f1 < (n.toNat : Int)) ∧ T p.f0 p.f1 = true := by
 induction d with
 | zero => intro a; unfold tabL; simp; omega
 | succ d ih =>
  intro a
  unfold tabL
  rw [List.mem_append, ih (a + 1), mem_rowL]
  constructor
  ·rintro (⟨h1, h2, h3⟩ | ⟨h1, h2, h3⟩)
   ·exact ⟨by omega, by omega, h3⟩
   ·exact ⟨by omega, h2, h3⟩
  ·rintro ⟨h1, h2, h3⟩
   by_cases c : p.f0 = a
   ·exact .inl ⟨c, by omega, h3⟩
   ·exact .inr ⟨by omega, h2, h3⟩
theorem tabL_len (T : Int → Int → Bool) (n : Int) (d : Nat) : ∀ a, (tabL T n d a).length ≤ d * n.toNat := by
 induction d with
 | zero => exact fun _ => by simp [tabL]
 | succ d ih =>
  intro a
  unfold tabL
  rw [List.length_append, Nat.succ_mul]
  have h1 := ih (a + 1)
  have h2 := rowL_len T a n.toNat 0
  omega
theorem rowL_filter (T : Int → Int → Bool) (q : S47 → Bool) (a : Int) (d : Nat) : ∀ b, (rowL T a d b).filter q = rowL (fun x y => T x y && q ⟨x, y⟩) a d b := by
 induction d with
 | zero => exact fun _ => rfl
 | succ d ih =>
  intro b
  unfold rowL
  rw [List.filter_append, ih]
  congr 1
  cases h1 : T a b <;> cases h2 : q ⟨a, b⟩ <;> simp [h1, h2]
theorem tabL_filter (T : Int → Int → Bool) (q : S47 → Bool) (n : Int) (d : Nat) : ∀ a, (tabL T n d a).filter q = tabL (fun x y => T x y && q ⟨x, y⟩) n d a := by
 induction d with
 | zero => exact fun _ => rfl
 | succ d ih =>
  intro a
  unfold tabL
  rw [List.filter_append, ih, rowL_filter]
end Go.Proofs.Ytbbkclcfmcjlgaa.B


namespace Go.Proofs.Ytbbkclcfmcjlgaa.B
open Go.RowKit Go.Proofs.Ytbbkclcfmcjlgaa.P Go.Proofs.Ytbbkclcfmcjlgaa.Gr Go.Proofs.YtbbkclcfmcjlgaaW.PrintWords Go.Proofs.YtbbkclcfmcjlgaaW.PrintLast Go.Proofs.YtbbkclcfmcjlgaaW.PrintMore
set_option linter.unusedVariables false
set_option linter.unusedSimpArgs false

theorem col_l1 {n : Int} (hn : 0 ≤ n ∧ n ≤ 200) (gf : Int → Int → Option Bool) (T : Int → Int → Bool) (a : Int) (a0 : 0 ≤ a) (a1 : a < n) (hg : ∀ b, 0 ≤ b → b < n → gf a b = some (T a b)) (r : List S47) (R : List S47) (hk : ∀ o : List S47, (o.length : Int) ≤ 200 * (a + 1) → Ev (fun k => col.l0 gf n k (a + 1) o) (o ++ R)) (d : Nat) : ∀ (b : Int) (o : List S47), 0 ≤ b → b + d = n → (o.length : Int) ≤ 200 * a + b → Ev (fun k => col.l1 gf n k a b o) (o ++ (rowL T a d b ++ R)) := by
 induction d with
 | zero =>
  intro b o b0 hb ho
  refine Ev.step (fun k => ?_) (hk o (by omega))
  simp only [col.l1]
  rw [if_neg (by omega), wrap_succ a a0 (by omega)]
  
 | succ d ih =>
  intro b o b0 hb ho
  have hw := wrap_succ b b0 (by omega)
  by_cases c : T a b = true
  ·have e : o ++ (rowL T a (d + 1) b ++ R) = (o ++ [⟨a, b⟩]) ++ (rowL T a d (b + 1) ++ R) := by
    simp [rowL, c]
   rw [e]
   refine Ev.step (fun k => ?_) (ih (b + 1) (o ++ [⟨a, b⟩]) (by omega) (by omega) (by rw [List.length_append, List.length_singleton]; omega))
   simp only [col.l1]
   rw [if_pos (by omega), hg b b0 (by omega), c, hw]
   simp only [Option.bind_some, if_true]
   rw [if_pos (by omega)]
  ·have e : o ++ (rowL T a (d + 1) b ++ R) = o ++ (rowL T a d (b + 1) ++ R) := by
    simp [rowL, c]
   rw [e]
   refine Ev.step (fun k => ?_) (ih (b + 1) o (by omega) (by omega) (by omega))
   simp only [col.l1]
   rw [if_pos (by omega), hg b b0 (by omega), show T a b = false by simpa using c, hw]
   simp
theorem col_l0 {n : Int} (hn : 0 ≤ n ∧ n ≤ 200) (gf : Int → Int → Option Bool) (T : Int → Int → Bool) (hg : ∀ a b, 0 ≤ a → a < n → 0 ≤ b → b < n → gf a b = some (T a b)) (d : Nat) : ∀ (a : Int) (o : List S47), 0 ≤ a → a + d = n → (o.length : Int) ≤ 200 * a → Ev (fun k => col.l0 gf n k a o) (o ++ tabL T n d a) := by
 induction d with
 | zero =>
  intro a o a0 ha ho
  refine ev_end (fun k => ?_)
  simp only [col.l0]
  rw [if_neg (by omega)]
  simp [tabL]
 | succ d ih =>
  intro a o a0 ha ho
  refine Ev.step (fun k => ?_) (col_l1 hn gf T a a0 (by omega) (fun b b0 b1 => hg a b a0 (by omega) b0 b1) o (tabL T n d (a + 1)) (fun o' ho' => ih (a + 1) o' (by omega) (by omega) ho') n.toNat 0 o (by omega) (by omega) (by omega))
  simp only [col.l0]
  rw [if_pos (by omega)]
theorem col_congr {n : Int} (hn : 0 ≤ n ∧ n ≤ 200) (gf gf' : Int → Int → Option Bool) (hg : ∀ a b, 0 ≤ a → a < n → 0 ≤ b → b < n → gf a b = gf' a b) : ∀ k, (∀ a o, 0 ≤ a → a ≤ n → col.l0 gf n k a o = col.l0 gf' n k a o) ∧ (∀ a b o, 0 ≤ a → a < n → 0 ≤ b → b ≤ n → col.l1 gf n k a b o = col.l1 gf' n k a b o) := by
 intro k
 induction k with
 | zero => exact ⟨fun _ _ _ _ => rfl, fun _ _ _ _ _ _ _ => rfl⟩
 | succ k ih =>
  refine ⟨fun a o a0 a1 => ?_, fun a b o a0 a1 b0 b1 => ?_⟩
  ·simp only [col.l0]
   by_cases c : a < n
   ·rw [if_pos c, if_pos c, ih.2 a 0 o a0 c (by omega) (by omega)]
   ·rw [if_neg c, if_neg c]
  ·simp only [col.l1]
   by_cases c : b < n
   ·rw [if_pos c, if_pos c, hg a b a0 a1 b0 c, wrap_succ b b0 (by omega), ih.2 a (b + 1) _ a0 a1 (by omega) (by omega), ih.2 a (b + 1) _ a0 a1 (by omega) (by omega)]
   ·rw [if_neg c, if_neg c, wrap_succ a a0 (by omega), ih.1 (a + 1) _ (by omega) (by omega)]
theorem at2_ev {n : Int} {R : Int → Int → Prop} {m : List (List Bool)} (h : Tab n R m) {a b : Int} (a0 : 0 ≤ a) (a1 : a < n) (b0 : 0 ≤ b) (b1 : b < n) : at2 m a b = some (mt m a b) := by
 unfold at2
 have h1 := h.1.1
 have h2 := h.1.2 a a0 a1
 rw [if_pos ⟨a0, by omega, b0, by omega⟩]
 rfl
open Classical in
noncomputable def dTc (R : Int → Int → Prop) (a b : Int) : Bool := decide (Tc R a b)
open Classical in
noncomputable def dRed (R : Int → Int → Prop) (a b : Int) : Bool := decide (Red R a b)
theorem dTc_iff (R : Int → Int → Prop) (a b : Int) : dTc R a b = true ↔ Tc R a b := by unfold dTc; simp
theorem dRed_iff (R : Int → Int → Prop) (a b : Int) : dRed R a b = true ↔ Red R a b := by unfold dRed; simp
theorem Tab.dTc {n : Int} {R : Int → Int → Prop} {m : List (List Bool)} (h : Tab n R m) {a b : Int} (a0 : 0 ≤ a) (b0 : 0 ≤ b) : mt m a b = B.dTc R a b := by
 rw [Bool.eq_iff_iff, h.2 a b a0 b0, dTc_iff]
theorem red_l0 {n : Int} (hn : 0 ≤ n ∧ n ≤ 200) {R : Int → Int → Prop} (hin : Inn R n) {m : List (List Bool)} (h : Tab n R m) {a b : Int} (a0 : 0 ≤ a) (a1 : a < n) (b0 : 0 ≤ b) (b1 : b < n) (hab : Tc R a b) (d : Nat) : ∀ (c : Int) (k : Nat), 0 ≤ c → c + d = n → d + 1 ≤ k → (∀ x, 0 ≤ x → x < c → ¬ (Tc R a x ∧ Tc R x b)) → red.l0 m n a b k c = some (dRed R a b) := by
 induction d with
 | zero =>
  intro c k c0 hc hk hno
  obtain ⟨k, rfl⟩ : ∃ k', k = k' + 1 := ⟨k - 1, by omega⟩
  simp only [red.l0]
  rw [if_neg (by omega)]
  congr 1
  symm
  rw [dRed_iff]
  refine ⟨hab, fun ⟨x, h1, h2⟩ => ?_⟩
  have := (h1.inn hin).2
  exact hno x this.1 (by omega) ⟨h1, h2⟩
 | succ d ih =>
  intro c k c0 hc hk hno
  obtain ⟨k, rfl⟩ : ∃ k', k = k' + 1 := ⟨k - 1, by omega⟩
  have hw := wrap_succ c c0 (by omega)
  simp only [red.l0]
  rw [if_pos (by omega), at2_ev h a0 a1 c0 (by omega), at2_ev h c0 (by omega) b0 b1, hw]
  simp only [Option.bind_some]
  have hnext : ¬ (Tc R a c ∧ Tc R c b) → red.l0 m n a b k (c + 1) = some (dRed R a b) := fun hx => ih (c + 1) k (by omega) (by omega) (by omega) (fun x x0 x1 => by
   by_cases e : x = c
   ·subst e; exact hx
   ·exact hno x x0 (by omega))
  by_cases c1 : mt m a c = true
  ·rw [if_pos c1]
   by_cases c2 : mt m c b = true
   ·rw [if_pos c2]
    congr 1
    symm
    have hr : ¬ dRed R a b = true := by
     rw [dRed_iff]
     exact fun hr => hr.2 ⟨c, (h.2 a c a0 c0).1 c1, (h.2 c b c0 b0).1 c2⟩
    simpa using hr
   ·rw [if_neg c2]
    exact hnext (fun hx => c2 ((h.2 c b c0 b0).2 hx.2))
  ·rw [if_neg c1]
   exact hnext (fun hx => c1 ((h.2 a c a0 c0).2 hx.1))
theorem red_ev {n : Int} (hn : 0 ≤ n ∧ n ≤ 200) {R : Int → Int → Prop} (hin : Inn R n) {m : List (List Bool)} (h : Tab n R m) {a b : Int} (a0 : 0 ≤ a) (a1 : a < n) (b0 : 0 ≤ b) (b1 : b < n) (k : Nat) (hk : 201 ≤ k) : red.f k m n a b = some (dRed R a b) := by
 unfold red.f
 rw [at2_ev h a0 a1 b0 b1]
 simp only [Option.bind_some]
 by_cases c : mt m a b = true
 ·rw [if_pos c]
  exact red_l0 hn hin h a0 a1 b0 b1 ((h.2 a b a0 b0).1 c) n.toNat 0 k (by omega) (by omega) (by omega) (fun x x0 x1 => by omega)
 ·rw [if_neg c]
  congr 1
  symm
  have hr : ¬ dRed R a b = true := by
   rw [dRed_iff]
   exact fun hr => c ((h.2 a b a0 b0).2 hr.1)
  simpa using hr
def LsOk (n : Int) (l : List S47) (T : Int → Int → Bool) (t : List S47 × Int) : Prop :=
 (vErr n l ≠ 0 ∧ t = ([], vErr n l)) ∨ (vErr n l = 0 ∧ ¬ Acyc (Rl l) ∧ t = ([], 12)) ∨ (vErr n l = 0 ∧ Acyc (Rl l) ∧ t = (tabL T n n.toNat 0, 0))
theorem LsOk.uniq {n : Int} {l : List S47} {T : Int → Int → Bool} {t u : List S47 × Int} (ht : LsOk n l T t) (hu : LsOk n l T u) : t = u := by
 rcases ht with ⟨h1, rfl⟩ | ⟨h1, h2, rfl⟩ | ⟨h1, h2, rfl⟩ <;> rcases hu with ⟨k1, rfl⟩ | ⟨k1, k2, rfl⟩ | ⟨k1, k2, rfl⟩
 ·rfl
 ·exact absurd k1 h1
 ·exact absurd k1 h1
 ·exact absurd h1 k1
 ·rfl
 ·exact absurd k2 h2
 ·exact absurd h1 k1
 ·exact absurd h2 k2
 ·rfl
theorem LsOk.len {n : Int} {l : List S47} {T : Int → Int → Bool} {t : List S47 × Int} (ht : LsOk n l T t) : t.1.length ≤ 40000 := by
 rcases ht with ⟨h1, rfl⟩ | ⟨h1, h2, rfl⟩ | ⟨h1, h2, rfl⟩
 ·simp
 ·simp
 ·have h3 := tabL_len T n n.toNat 0
  have h4 := vErr_zero h1
  have h5 : n.toNat * n.toNat ≤ 200 * 200 := Nat.mul_le_mul (by omega) (by omega)
  show (tabL T n n.toNat 0).length ≤ 40000
  omega
theorem closure_ev (n : Int) (l : List S47) (hl : l.length ≤ 100000000000000) : EvP (fun f => precedence_Closure.f f n l) (LsOk n l (dTc (Rl l))) := by
 unfold precedence_Closure.f
 refine EvP.bindP (reach_ev n l hl) (fun t ht => ?_)
 rcases ht with ⟨h1, rfl⟩ | ⟨h1, h2, rfl⟩ | ⟨h1, h2, h3, h4⟩
 ·simp only [if_neg h1]
  exact ⟨_, Ev.now _, .inl ⟨h1, rfl⟩⟩
 ·simp only [if_neg (show ¬ (12 : Int) = 0 by decide)]
  exact ⟨_, Ev.now _, .inr (.inl ⟨h1, h2, rfl⟩)⟩
 ·simp only [if_pos h3]
  obtain ⟨k1, k2, k3, k4⟩ := vErr_zero h1
  refine EvP.bind (col_l0 ⟨k1, k2⟩ (at2 t.1) (dTc (Rl l)) (fun a b a0 a1 b0 b1 => by rw [at2_ev h4 a0 a1 b0 b1, h4.dTc a0 b0]) n.toNat 0 [] (by omega) (by omega) (by simp)) ⟨_, Ev.now _, .inr (.inr ⟨h1, h2, by simp⟩)⟩
theorem reduce_ev (n : Int) (l : List S47) (hl : l.length ≤ 100000000000000) : EvP (fun f => precedence_Reduce.f f n l) (LsOk n l (dRed (Rl l))) := by
 unfold precedence_Reduce.f
 refine EvP.bindP (reach_ev n l hl) (fun t ht => ?_)
 rcases ht with ⟨h1, rfl⟩ | ⟨h1, h2, rfl⟩ | ⟨h1, h2, h3, h4⟩
 ·simp only [if_neg h1]
  exact ⟨_, Ev.now _, .inl ⟨h1, rfl⟩⟩
 ·simp only [if_neg (show ¬ (12 : Int) = 0 by decide)]
  exact ⟨_, Ev.now _, .inr (.inl ⟨h1, h2, rfl⟩)⟩
 ·simp only [if_pos h3]
  obtain ⟨k1, k2, k3, k4⟩ := vErr_zero h1
  have hin := rl_inn k4
  have hev : Ev (fun f => col.l0 (red.f f t.1 n) n f 0 []) ([] ++ tabL (dRed (Rl l)) n n.toNat 0) := by
   obtain ⟨K, hK⟩ := col_l0 ⟨k1, k2⟩ (fun a b => some (dRed (Rl l) a b)) (dRed (Rl l)) (fun a b _ _ _ _ => rfl) n.toNat 0 [] (by omega) (by omega) (by simp)
   refine ⟨max K 201, fun f hf => ?_⟩
   show col.l0 (red.f f t.1 n) n f 0 [] = _
   rw [(col_congr ⟨k1, k2⟩ (red.f f t.1 n) (fun a b => some (dRed (Rl l) a b)) (fun a b a0 a1 b0 b1 => red_ev ⟨k1, k2⟩ hin h4 a0 a1 b0 b1 f (by omega)) f).1 0 [] (by omega) (by omega)]
   exact hK f (by omega)
  refine EvP.bind hev ⟨_, Ev.now _, .inr (.inr ⟨h1, h2, by simp⟩)⟩

theorem rclo_l1 {n : Int} (hn : 0 ≤ n ∧ n ≤ 200) {R : Int → Int → Prop} {m : List (List Bool)} (h : Tab n R m) (a : Int) (a0 : 0 ≤ a) (a1 : a < n) (M : List S47) (hk : ∀ o : List S47, (o.length : Int) ≤ 200 * (a + 1) → Ev (fun k => swarfref29_Closure.l0 k n m o (a + 1)) (o ++ M, 0)) (d : Nat) : ∀ (b : Int) (o : List S47), 0 ≤ b → b + d = n → (o.length : Int) ≤ 200 * a + b → Ev (fun k => swarfref29_Closure.l1 k n m o a b) (o ++ (rowL (dTc R) a d b ++ M), 0) := by
 have lm := h.1.1
 have la := h.1.2 a a0 a1
 induction d with
 | zero =>
  intro b o b0 hb ho
  refine Ev.step (fun k => ?_) (hk o (by omega))
  simp only [swarfref29_Closure.l1]
  rw [if_neg (by omega), wrap_succ a a0 (by omega)]
 | succ d ih =>
  intro b o b0 hb ho
  have hw := wrap_succ b b0 (by omega)
  have hd := h.dTc (a := a) (b := b) a0 b0
  by_cases c : dTc R a b = true
  ·have e : o ++ (rowL (dTc R) a (d + 1) b ++ M) = (o ++ [⟨a, b⟩]) ++ (rowL (dTc R) a d (b + 1) ++ M) := by
    simp [rowL, c]
   rw [e]
   refine Ev.step (fun k => ?_) (ih (b + 1) (o ++ [⟨a, b⟩]) (by omega) (by omega) (by rw [List.length_append, List.length_singleton]; omega))
   simp only [swarfref29_Closure.l1]
   rw [if_pos (by omega), if_pos a0, if_pos (by omega), if_pos b0, if_pos (by omega), if_pos (show rdOf false (rd_L7 m a) b = true from hd.trans c), if_pos (by omega), hw]
  ·have e : o ++ (rowL (dTc R) a (d + 1) b ++ M) = o ++ (rowL (dTc R) a d (b + 1) ++ M) := by
    simp [rowL, c]
   rw [e]
   refine Ev.step (fun k => ?_) (ih (b + 1) o (by omega) (by omega) (by omega))
   simp only [swarfref29_Closure.l1]
   rw [if_pos (by omega), if_pos a0, if_pos (by omega), if_pos b0, if_pos (by omega), if_neg (show ¬ rdOf false (rd_L7 m a) b = true from fun hx => c (hd.symm.trans hx)), hw]
theorem rclo_l0 {n : Int} (hn : 0 ≤ n ∧ n ≤ 200) {R : Int → Int → Prop} {m : List (List Bool)} (h : Tab n R m) (d : Nat) : ∀ (a : Int) (o : List S47), 0 ≤ a → a + d = n → (o.length : Int) ≤ 200 * a → Ev (fun k => swarfref29_Closure.l0 k n m o a) (o ++ tabL (dTc R) n d a, 0) := by
 induction d with
 | zero =>
  intro a o a0 ha ho
  refine ev_end (fun k => ?_)
  simp only [swarfref29_Closure.l0]
  rw [if_neg (by omega)]
  simp [tabL]
 | succ d ih =>
  intro a o a0 ha ho
  refine Ev.step (fun k => ?_) (rclo_l1 hn h a a0 (by omega) (tabL (dTc R) n d (a + 1)) (fun o' ho' => ih (a + 1) o' (by omega) (by omega) ho') n.toNat 0 o (by omega) (by omega) (by omega))
  simp only [swarfref29_Closure.l0]
  rw [if_pos (by omega)]
theorem rclosure_ev (n : Int) (l : List S47) (hl : l.length ≤ 100000000000000) : EvP (fun f => swarfref29_Closure.f f n l) (LsOk n l (dTc (Rl l))) := by
 unfold swarfref29_Closure.f
 refine EvP.bindP (fault_ev n l hl) (fun e he => ?_)
 rcases he with ⟨h1, rfl⟩ | ⟨h1, h2, rfl⟩ | ⟨h1, h2, rfl⟩
 ·simp only [if_neg h1]
  exact ⟨_, Ev.now _, .inl ⟨h1, rfl⟩⟩
 ·simp only [if_neg (show ¬ (12 : Int) = 0 by decide)]
  exact ⟨_, Ev.now _, .inr (.inl ⟨h1, h2, rfl⟩)⟩
 ·simp only [if_true]
  obtain ⟨k1, k2, k3, k4⟩ := vErr_zero h1
  refine EvP.bindP (depends_ev h1) (fun m hm => ⟨_, rclo_l0 ⟨k1, k2⟩ hm n.toNat 0 [] (by omega) (by omega) (by simp), .inr (.inr ⟨h1, h2, by simp⟩)⟩)
open Classical in
noncomputable def mid (R : Int → Int → Prop) (p : S47) : Bool := decide (∃ x, Tc R p.f0 x ∧ Tc R x p.f1)
theorem mid_iff (R : Int → Int → Prop) (p : S47) : mid R p = true ↔ ∃ x, Tc R p.f0 x ∧ Tc R x p.f1 := by unfold mid; simp
theorem rred_l1 {n : Int} (hn : 0 ≤ n ∧ n ≤ 200) {R : Int → Int → Prop} {m : List (List Bool)} (h : Tab n R m) (cl : List S47) (hcl : cl.length ≤ 40000) (i : Int) (i0 : 0 ≤ i) (i1 : i < (cl.length : Int)) (hp : (0 ≤ (rd_T47 cl i).f0 ∧ (rd_T47 cl i).f0 < n) ∧ (0 ≤ (rd_T47 cl i).f1 ∧ (rd_T47 cl i).f1 < n)) (hin : Inn R n) (o : List S47) (ho : (o.length : Int) ≤ i) (r : List S47 × Int)
  (hk : Ev (fun k => swarfref29_Reduce.l0 k n cl m (if mid R (rd_T47 cl i) = true then o else o ++ [rd_T47 cl i]) (i + 1)) r) (d : Nat) : ∀ (c : Int) (f : Bool), 0 ≤ c → c + d = n → (f = true ↔ ∃ x, (0 ≤ x ∧ x < c) ∧ Tc R (rd_T47 cl i).f0 x ∧ Tc R x (rd_T47 cl i).f1) → Ev (fun k => swarfref29_Reduce.l1 k n cl m o i f c) r := by
 have lm := h.1.1
 have la := h.1.2 _ hp.1.1 hp.1.2
 induction d with
 | zero =>
  intro c f c0 hc hf
  have hm : f = mid R (rd_T47 cl i) := by
   rw [Bool.eq_iff_iff, hf, mid_iff]
   constructor
   ·rintro ⟨x, _, hx⟩; exact ⟨x, hx⟩
   ·rintro ⟨x, h1, h2⟩
    have := (h1.inn hin).2
    exact ⟨x, by omega, h1, h2⟩
  subst hm
  refine Ev.step (fun k => ?_) hk
  simp only [swarfref29_Reduce.l1]
  rw [if_neg (by omega), wrap_succ i i0 (by omega)]
  by_cases e : mid R (rd_T47 cl i) = true
  ·rw [if_pos e, if_pos e]
  ·rw [if_neg e, if_pos i0, if_pos i1, if_pos (show o.length < 8796093022208 by omega), if_neg e]
 | succ d ih =>
  intro c f c0 hc hf
  have hw := wrap_succ c c0 (by omega)
  have lc := h.1.2 c c0 (by omega)
  have next : ∀ f' : Bool, (f' = true ↔ f = true ∨ (Tc R (rd_T47 cl i).f0 c ∧ Tc R c (rd_T47 cl i).f1)) → Ev (fun k => swarfref29_Reduce.l1 k n cl m o i f' (c + 1)) r := fun f' hf' => ih (c + 1) f' (by omega) (by omega) (by
   rw [hf', hf]
   constructor
   ·rintro (⟨x, h1, h2⟩ | h2)
    ·exact ⟨x, by omega, h2⟩
    ·exact ⟨c, by omega, h2⟩
   ·rintro ⟨x, h1, h2⟩
    by_cases e : x = c
    ·subst e; exact .inr h2
    ·exact .inl ⟨x, by omega, h2⟩)
  cases f with
  | true =>
   refine Ev.step (fun k => ?_) (next true (by simp))
   simp only [swarfref29_Reduce.l1]
   rw [if_pos (by omega), if_pos trivial, hw]
  | false =>
   by_cases c1 : mt m (rd_T47 cl i).f0 c = true
   ·refine Ev.step (fun k => ?_) (next (mt m c (rd_T47 cl i).f1) (by
     rw [h.2 _ _ c0 hp.2.1]
     have := (h.2 _ _ hp.1.1 c0).1 c1
     simp [this]))
    simp only [swarfref29_Reduce.l1]
    rw [if_pos (by omega), if_neg (by decide), if_pos i0, if_pos i1, if_pos hp.1.1, if_pos (by omega), if_pos c0, if_pos (by omega), if_pos (show rdOf false (rd_L7 m (rd_T47 cl i).f0) c = true from c1), if_pos (by omega), if_pos hp.2.1, if_pos (by omega), hw]
    rfl
   ·refine Ev.step (fun k => ?_) (next false (by
     have hno : ¬ Tc R (rd_T47 cl i).f0 c := fun hx => c1 ((h.2 _ _ hp.1.1 c0).2 hx)
     simp [hno]))
    simp only [swarfref29_Reduce.l1]
    rw [if_pos (by omega), if_neg (by decide), if_pos i0, if_pos i1, if_pos hp.1.1, if_pos (by omega), if_pos c0, if_pos (by omega), if_neg (show ¬ rdOf false (rd_L7 m (rd_T47 cl i).f0) c = true from c1), hw]
theorem rred_l0 {n : Int} (hn : 0 ≤ n ∧ n ≤ 200) {R : Int → Int → Prop} {m : List (List Bool)} (h : Tab n R m) (cl : List S47) (hcl : cl.length ≤ 40000) (hp : ∀ p ∈ cl, (0 ≤ p.f0 ∧ p.f0 < n) ∧ (0 ≤ p.f1 ∧ p.f1 < n)) (hin : Inn R n) (d : Nat) : ∀ (i : Int) (o : List S47), 0 ≤ i → i + d = cl.length → (o.length : Int) ≤ i → Ev (fun k => swarfref29_Reduce.l0 k n cl m o i) (o ++ (cl.drop i.toNat).filter (fun p => !mid R p), 0) := by
 induction d with
 | zero =>
  intro i o i0 hi ho
  refine ev_end (fun k => ?_)
  simp only [swarfref29_Reduce.l0]
  rw [if_neg (by omega), drop_end cl i (by omega)]
  simp
 | succ d ih =>
  intro i o i0 hi ho
  have hk : Ev (fun k => swarfref29_Reduce.l0 k n cl m (if mid R (rd_T47 cl i) = true then o else o ++ [rd_T47 cl i]) (i + 1)) (o ++ (cl.drop i.toNat).filter (fun p => !mid R p), 0) := by
   have e : o ++ (cl.drop i.toNat).filter (fun p => !mid R p) = (if mid R (rd_T47 cl i) = true then o else o ++ [rd_T47 cl i]) ++ (cl.drop (i + 1).toNat).filter (fun p => !mid R p) := by
    rw [drop_T47 cl i i0 (by omega), List.filter_cons]
    by_cases c : mid R (rd_T47 cl i) = true
    ·simp [c]
    ·simp [c]
   rw [e]
   refine ih (i + 1) _ (by omega) (by omega) ?_
   split
   ·omega
   ·rw [List.length_append, List.length_singleton]; omega
  refine Ev.step (fun k => ?_) (rred_l1 hn h cl hcl i i0 (by omega) (hp _ (T47_mem cl i i0 (by omega))) hin o ho _ hk n.toNat 0 false (by omega) (by omega) ⟨fun h => (by cases h), fun ⟨x, hx, _⟩ => by omega⟩)
  simp only [swarfref29_Reduce.l0]
  rw [if_pos (by omega)]
theorem tab_in {T : Int → Int → Bool} {n : Int} (hn : 0 ≤ n) {p : S47} : p ∈ tabL T n n.toNat 0 ↔ ((0 ≤ p.f0 ∧ p.f0 < n) ∧ (0 ≤ p.f1 ∧ p.f1 < n)) ∧ T p.f0 p.f1 = true := by
 rw [mem_tabL]
 constructor
 ·rintro ⟨h1, h2, h3⟩; exact ⟨⟨by omega, by omega⟩, h3⟩
 ·rintro ⟨⟨h1, h2⟩, h3⟩; exact ⟨by omega, by omega, h3⟩
theorem rreduce_ev (n : Int) (l : List S47) (hl : l.length ≤ 100000000000000) : EvP (fun f => swarfref29_Reduce.f f n l) (LsOk n l (dRed (Rl l))) := by
 unfold swarfref29_Reduce.f
 refine EvP.bindP (rclosure_ev n l hl) (fun t ht => ?_)
 have htl := ht.len
 rcases ht with ⟨h1, rfl⟩ | ⟨h1, h2, rfl⟩ | ⟨h1, h2, rfl⟩
 ·simp only [if_neg h1]
  exact ⟨_, Ev.now _, .inl ⟨h1, rfl⟩⟩
 ·simp only [if_neg (show ¬ (12 : Int) = 0 by decide)]
  exact ⟨_, Ev.now _, .inr (.inl ⟨h1, h2, rfl⟩)⟩
 ·simp only [if_true]
  obtain ⟨k1, k2, k3, k4⟩ := vErr_zero h1
  refine EvP.bindP (depends_ev h1) (fun m hm => ⟨_, rred_l0 ⟨k1, k2⟩ hm _ htl (fun p hp => ((tab_in k1).1 hp).1) (rl_inn k4) _ 0 [] (by omega) (Int.zero_add _) (by simp), .inr (.inr ⟨h1, h2, ?_⟩)⟩)
  rw [show (0 : Int).toNat = 0 from rfl, List.drop_zero, List.nil_append, tabL_filter]
  congr 2
  funext x y
  rw [Bool.eq_iff_iff, dRed_iff, Bool.and_eq_true, dTc_iff]
  unfold Red
  rw [Bool.not_eq_true', ← mid_iff (Rl l) ⟨x, y⟩]
  simp
end Go.Proofs.Ytbbkclcfmcjlgaa.B



namespace Go.Proofs.Ytbbkclcfmcjlgaa.B
open Go.RowKit Go.Proofs.Ytbbkclcfmcjlgaa.P Go.Proofs.Ytbbkclcfmcjlgaa.Gr Go.Proofs.YtbbkclcfmcjlgaaW.PrintWords Go.Proofs.YtbbkclcfmcjlgaaW.PrintLast Go.Proofs.YtbbkclcfmcjlgaaW.PrintMore
set_option linter.unusedVariables false
set_option linter.unusedSimpArgs false
theorem colaw_j0 (n : Int) (l : List S47) (b : Bool) (h : b = false → l.length ≤ 60) : EvP (fun k => swarflaw29_PrecedenceClosure.j0 k n l b) (fun r => r = true) := by
 cases b with
 | true =>
  refine EvP.step (f := fun k => (swarflaw29_awake.f k).bind fun t => some t) (fun k => ?_) (EvP.bind awake_ev ⟨true, Ev.now _, rfl⟩)
  simp only [swarflaw29_PrecedenceClosure.j0]
  rw [if_pos trivial]
 | false =>
  have hl := h rfl
  refine EvP.step (f := fun k => (precedence_Closure.f k n l).bind fun bt435 => ((swarfref29_Closure.f k n l).bind fun bt439 => ((precedence_Reduce.f k n l).bind fun bt446 => ((swarfref29_Reduce.f k n l).bind fun bt450 => (if bt435.2 = bt439.2 then (if bt446.2 = bt450.2 then ((swarfref29_Pairs.f k bt435.1 bt439.1).bind fun t454 => (if t454 = true then ((swarfref29_Pairs.f k bt446.1 bt450.1).bind fun t455 => (some t455)) else (some false))) else (some false)) else (some false)))))) (fun k => ?_) ?_
  ·simp only [swarflaw29_PrecedenceClosure.j0]
   rw [if_neg (by decide), cp_eq l (by omega)]
   rfl
  ·refine EvP.bindP (closure_ev n l (by omega)) (fun t ht => EvP.bindP (rclosure_ev n l (by omega)) (fun u hu => ?_))
   have e := ht.uniq hu
   subst e
   refine EvP.bindP (reduce_ev n l (by omega)) (fun v hv => EvP.bindP (rreduce_ev n l (by omega)) (fun x hx => ?_))
   have e := hv.uniq hx
   subst e
   simp only [if_true]
   refine EvP.bind (pairs_ev t.1 t.1 (by have := ht.len; omega)) ?_
   simp only [decide_true, if_true]
   refine EvP.bind (pairs_ev v.1 v.1 (by have := hv.len; omega)) ⟨_, Ev.now _, by simp⟩
theorem PrecedenceClosure (n : Int) (l : List S47) : ∃ k, swarflaw29_PrecedenceClosure.f k n l = some true := by
 have hev : ∀ {g : Nat → Option Bool}, EvP g (fun r => r = true) → Ev g true := fun h => by
  obtain ⟨r, h1, rfl⟩ := h
  exact h1
 refine Ev.rounds (g := fun k => swarflaw29_PrecedenceClosure.f k n l) (hev ?_)
 unfold swarflaw29_PrecedenceClosure.f
 refine EvP.bind awake_ev ?_
 simp only [if_true]
 refine EvP.bind (few_ev n 30 l) ?_
 refine colaw_j0 n l _ (fun h => ?_)
 have h2 : fewB n 30 l = true := by simpa using h
 unfold fewB at h2
 by_cases c : (l.length : Int) ≤ 60
 ·omega
 ·rw [if_neg c] at h2; cases h2
end Go.Proofs.Ytbbkclcfmcjlgaa.B
