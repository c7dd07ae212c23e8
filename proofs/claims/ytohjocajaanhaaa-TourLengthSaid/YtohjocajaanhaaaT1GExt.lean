/- The contract of (*tour.search).extend (function 38), by hand: it keeps its best order in a struct behind a pointer, which the printing program does not take. -/
import Derived.Test.YtohjocajaanhaaaT1Px3
import Derived.Test.YtohjocajaanhaaaT1Px12
import Derived.Test.YtohjocajaanhaaaT1GClone
import Derived.Lib.LazyBuf
import Derived.WalkSpells
namespace Go.Proofs.Ytohjocajaanhaaa.P
open Go.RowKit Go.Proofs.YtohjocajaanhaaaW.PrintWords Go.Proofs.YtohjocajaanhaaaW.PrintLast Go.Proofs.YtohjocajaanhaaaW.PrintMore
set_option linter.unusedVariables false
set_option linter.unusedSimpArgs false

/-! ### What it computes -/
mutual
def tour_ext.f : Nat → List S31 → List Int → Int → List Int → Int → Option (List Int × Int)
  | 0, _, _, _, _, _ => none
  | k + 1, l, o, s, b, m => if 1 ≤ o.length then (if o.length < 1000 then (if ¬ b = [] ∧ m ≤ s then some (b, m) else (if o.length = l.length then some (o, s) else tour_ext.l0 k l o s b m 0)) else none) else none
def tour_ext.l0 : Nat → List S31 → List Int → Int → List Int → Int → Int → Option (List Int × Int)
  | 0, _, _, _, _, _, _ => none
  | k + 1, l, o, s, b, m, i => if i < (l.length : Int) then (if 0 ≤ i then ((slices_Contains_int_int.f k o i).bind fun c => (if c = true then tour_ext.l0 k l o s b m (wrap64 (i + 1)) else (if 0 ≤ rd o ((o.length : Int) - 1) then (if rd o ((o.length : Int) - 1) < (l.length : Int) then ((tour_Distance.f (rd_T31 l (rd o ((o.length : Int) - 1))).f0 (rd_T31 l (rd o ((o.length : Int) - 1))).f1 (rd_T31 l i).f0 (rd_T31 l i).f1).bind fun d => ((tour_ext.f k l (o ++ [i]) (wrap64 (s + d)) b m).bind fun t => tour_ext.l0 k l o s t.1 t.2 (wrap64 (i + 1)))) else none) else none))) else none) else some (b, m)
end
theorem tour_ext.mono_l : ∀ k, (∀ y0 y1 y2 y3 y4, LeO (tour_ext.f k y0 y1 y2 y3 y4) (tour_ext.f (k + 1) y0 y1 y2 y3 y4)) ∧ (∀ y0 y1 y2 y3 y4 y5, LeO (tour_ext.l0 k y0 y1 y2 y3 y4 y5) (tour_ext.l0 (k + 1) y0 y1 y2 y3 y4 y5))
  | 0 => ⟨fun _ _ _ _ _ r h => by simp [tour_ext.f] at h, fun _ _ _ _ _ _ r h => by simp [tour_ext.l0] at h⟩
  | k + 1 => by
    obtain ⟨ih0, ih1⟩ := tour_ext.mono_l k
    refine ⟨?_, ?_⟩
    · intro y0 y1 y2 y3 y4
      unfold tour_ext.f
      repeat' first
      | (with_reducible exact ih0 _ _ _ _ _)
      | (with_reducible exact ih1 _ _ _ _ _ _)
      | (with_reducible exact LeO.refl _)
      | (with_reducible exact LeO.none _)
      | (with_reducible refine LeO.ite ?_ ?_)
      | exact ih1 _ _ _ _ _ _
      | exact LeO.none _
      | refine LeO.ite ?_ ?_
    · intro y0 y1 y2 y3 y4 y5
      unfold tour_ext.l0
      repeat' first
      | (with_reducible exact ih0 _ _ _ _ _)
      | (with_reducible exact ih1 _ _ _ _ _ _)
      | (with_reducible exact slices_Contains_int_int.mono _ _ _)
      | (with_reducible exact LeO.refl _)
      | (with_reducible exact LeO.none _)
      | (with_reducible refine LeO.ite ?_ ?_)
      | (with_reducible refine LeO.bind ?_ (fun _ => ?_))
      | exact ih0 _ _ _ _ _
      | exact ih1 _ _ _ _ _ _
      | exact slices_Contains_int_int.mono _ _ _
      | exact LeO.none _
      | refine LeO.ite ?_ ?_
      | refine LeO.bind ?_ (fun _ => ?_)
theorem tour_ext.mono : ∀ a0 a1 a2 a3 a4 k, LeO (tour_ext.f k a0 a1 a2 a3 a4) (tour_ext.f (k + 1) a0 a1 a2 a3 a4) := by
  intro a0 a1 a2 a3 a4 k
  exact (tour_ext.mono_l k).1 a0 a1 a2 a3 a4

/-! ### The world around it -/
structure EnvE (w W : World) (g : Nat) (A0 : Option Addr) (n0 c0 : Nat) (b : List Int) (m : Int) (vb : Value) : Prop where
  bk : W.heap[g]? = some (.cells #[.slice A0 n0 c0, vb, .int .i64 m] 55 (0, 0))
  r : Kd.R (Kd.int .i64) 3 W w.heap.size (fun _ => True) vb b
  z : b = [] → vb = .slice none 0 0
  b : Below w.heap.size w W
  l : w.heap.size ≤ g
theorem EnvE.step {w W W1 : World} {g : Nat} {A0 : Option Addr} {n0 c0 : Nat} {b : List Int} {m : Int} {vb : Value} (h : EnvE w W g A0 n0 c0 b m vb) (hb : Below W.heap.size W W1) : EnvE w W1 g A0 n0 c0 b m vb :=
  ⟨blk_below h.bk hb, Kd.R_below h.r hb, h.z, below_step h.b hb, h.l⟩
theorem EnvE.drew {w W : World} {g : Nat} {A0 : Option Addr} {n0 c0 : Nat} {b : List Int} {m : Int} {vb : Value} (h : EnvE w W g A0 n0 c0 b m vb) : EnvE w W.drew g A0 n0 c0 b m vb :=
  h.step (below_drew1 (Below.refl _ _))
theorem EnvE.drewN {w W : World} {g : Nat} {A0 : Option Addr} {n0 c0 : Nat} {b : List Int} {m : Int} {vb : Value} (h : EnvE w W g A0 n0 c0 b m vb) (n : Nat) : EnvE w (W.drewN n) g A0 n0 c0 b m vb :=
  h.step (Drawn0.below ⟨⟨n, rfl⟩⟩)
theorem EnvE.put {w W : World} {g : Nat} {A0 : Option Addr} {n0 c0 : Nat} {b b' : List Int} {m m' : Int} {vb vb' : Value} (h : EnvE w W g A0 n0 c0 b m vb) (hr : Kd.R (Kd.int .i64) 3 W w.heap.size (fun _ => True) vb' b') (hz : ¬ b' = []) :
    EnvE w ((W.setCell ⟨g, 1, none⟩ vb').setCell ⟨g, 2, none⟩ (.int .i64 m')) g A0 n0 c0 b' m' vb' :=
  ⟨blk_put (blk_put h.bk 1 _ rfl) 2 _ rfl, Kd.R_set (Kd.R_set hr h.bk (by decide) 1 _) (blk_set h.bk 1 _) (by decide) 2 _, fun e => absurd e hz, below_set (below_set h.b h.l) h.l, h.l⟩
theorem R_keptG {w W1 : World} {base g : Nat} {v : Value} {xs : List Int} {cells : Array Value} (h : Kd.R (Kd.int .i64) 3 w base (fun _ => True) v xs) (hb : w.heap[g]? = some (.cells cells 55 (0, 0))) (hk : Kept w W1 (fun k => k = g)) : Kd.R (Kd.int .i64) 3 W1 base (fun _ => True) v xs :=
  Kd.R_mono (Kd.R_kept (Kd.R_types h hb (by decide)) hk (fun k hk' => hk'.2)) (fun _ _ => trivial)
theorem nil_of {w W : World} {g : Nat} {A0 : Option Addr} {n0 c0 : Nat} {b : List Int} {m : Int} {vb : Value} (h : EnvE w W g A0 n0 c0 b m vb) (hb : ¬ b = []) : ∃ ad c, vb = .slice (some ad) b.length c := by
  obtain ⟨A, c, e, _, hc⟩ := Kd.R_reads h.r
  have hl : 0 < b.length := List.length_pos_iff.2 hb
  obtain ⟨ad, ha, _⟩ := hc.2.2 hl
  exact ⟨ad, c, by rw [e, ha]⟩
set_option maxHeartbeats 4000000 in
set_option maxRecDepth 100000 in
theorem tour_ext.calls (w : World) (g : Nat) (A0 : Option Addr) (c0 : Nat) (l : List S31) (hl : Kd.C k31 w A0 l.length l) (hlx : l.length < 1000) (k : Nat) : ∀ (o : List Int) (s : Int) (b : List Int) (m : Int) (r1 : List Int) (r2 : Int) (vb : Value) (Ao : Option Addr) (co : Nat) (W : World),
    EnvE w W g A0 l.length c0 b m vb → Kd.R (Kd.int .i64) 3 W w.heap.size (fun _ => True) (.slice Ao o.length co) o → tour_ext.f k l o s b m = some (r1, r2) →
    Calls Try.prog 38 #[.pointer (some ⟨g, 0, none⟩), .slice Ao o.length co, .int .i64 s] W fun e W' => e = .returned (.tuple #[]) ∧ ∃ vb', EnvE w W' g A0 l.length c0 r1 r2 vb' ∧ Kept W W' (fun k => k = g) := by
  induction k using Nat.strongRecOn with
  | _ k ih =>
  intro o s b m r1 r2 vb Ao co W hE hO h
  cases k with
  | zero => exact absurd h (by simp [tour_ext.f])
  | succ k =>
  simp only [tour_ext.f] at h
  by_cases ho1 : 1 ≤ o.length
  · rw [if_pos ho1] at h
    by_cases ho2 : o.length < 1000
    · rw [if_pos ho2] at h
      have HE := Aside0.mk hE
      have HO := Aside0.mk hO
      have HL := Aside0.mk hl
      have hu55 := Try.underlying55
      clear hE hO hl
      by_cases pr : ¬ b = [] ∧ m ≤ s
      · rw [if_pos pr] at h
        obtain ⟨rfl, rfl⟩ : b = r1 ∧ m = r2 := by simpa using h
        obtain ⟨ad, cb, rfl⟩ := nil_of HE.out pr.1
        have hz0 : W.cell? ⟨g, 0, none⟩ = some (.slice A0 l.length c0) := (blk_cell HE.out.bk 0).trans rfl
        have hz1 : W.cell? ⟨g, 1, none⟩ = some (.slice (some ad) b.length cb) := (blk_cell HE.out.bk 1).trans rfl
        have hz2 : W.cell? ⟨g, 2, none⟩ = some (.int .i64 m) := (blk_cell HE.out.bk 2).trans rfl
        have hq := fun (W : World) => run_neq_slice_nil (P := Try.prog) (w := W) 23 3 (some ad) b.length cb Try.underlying23
        have hs : decide (m ≤ s) = true := decide_eq_true pr.2
        clear pr h ih
        go_enter Try.func38, Try.ntmps38
        go_wp2_with fail
        refine bodyPost_ret (results_none rfl _ _ _) rfl ?_
        first | exact ⟨rfl, _, HE.out, Kept.refl _ _⟩ | exact ⟨rfl, ⟨_, HE.out⟩, Kept.refl _ _⟩
      · rw [if_neg pr] at h
        have HH := Aside0.mk h
        clear h
        go_enter Try.func38, Try.ntmps38
        go_upto_region 0 with fail
        go_cut [19] (fun v19 wc => v19 = .bool false ∧ Aside0 (EnvE w wc g A0 l.length c0 b m vb) ∧ Aside0 (Kd.R (Kd.int .i64) 3 wc w.heap.size (fun _ => True) (.slice Ao o.length co) o) ∧ Aside0 (Kept W wc (fun k => k = g)))
        case first =>
          by_cases hb : b = []
          · have hv := HE.out.z hb
            subst hv
            have hz0 : W.cell? ⟨g, 0, none⟩ = some (.slice A0 l.length c0) := (blk_cell HE.out.bk 0).trans rfl
            have hz1 : W.cell? ⟨g, 1, none⟩ = some (.slice none 0 0) := (blk_cell HE.out.bk 1).trans rfl
            have hz2 : W.cell? ⟨g, 2, none⟩ = some (.int .i64 m) := (blk_cell HE.out.bk 2).trans rfl
            have hq := fun (W : World) => run_neq_slice_nil (P := Try.prog) (w := W) 23 3 none 0 0 Try.underlying23
            clear ih pr hb
            go_wp2_with fail
            all_goals go_meet
            all_goals (case rel => exact ⟨rfl, HE, HO, ⟨Kept.refl _ _⟩⟩)
          · obtain ⟨ad, cb, rfl⟩ := nil_of HE.out hb
            have hz0 : W.cell? ⟨g, 0, none⟩ = some (.slice A0 l.length c0) := (blk_cell HE.out.bk 0).trans rfl
            have hz1 : W.cell? ⟨g, 1, none⟩ = some (.slice (some ad) b.length cb) := (blk_cell HE.out.bk 1).trans rfl
            have hz2 : W.cell? ⟨g, 2, none⟩ = some (.int .i64 m) := (blk_cell HE.out.bk 2).trans rfl
            have hq := fun (W : World) => run_neq_slice_nil (P := Try.prog) (w := W) 23 3 (some ad) b.length cb Try.underlying23
            have hs : decide (m ≤ s) = false := decide_eq_false (fun hms => pr ⟨hb, hms⟩)
            clear ih pr hb
            go_wp2_with fail
            all_goals go_meet
            all_goals (case rel => exact ⟨rfl, HE, HO, ⟨Kept.refl _ _⟩⟩)
        case rest =>
          obtain ⟨rfl, HE1, HO1, HK1⟩ := hcut
          clear HE HO pr
          have h := HH.out
          clear HH
          have hz0 : wc.cell? ⟨g, 0, none⟩ = some (.slice A0 l.length c0) := (blk_cell HE1.out.bk 0).trans rfl
          by_cases hf : o.length = l.length
          · rw [if_pos hf] at h
            obtain ⟨rfl, rfl⟩ : o = r1 ∧ s = r2 := by simpa using h
            have hfb : ((o.length : Int) == (l.length : Int)) = true := by rw [hf]; simp
            have hon : ¬ o = [] := by rintro rfl; simp at ho1
            have HF := Aside0.mk hf
            clear h hf ih
            go_wp2_with (go_at_call 41; go_must (refine (slices_Clone_int_int.calls_of _ _ o _ (Kd.R_reads' HO1.out).2.2 (by omega)).mono ?_; rintro e w3 ⟨v51, rfl, ho, hb⟩; obtain ⟨A51, c51, rfl⟩ := Kd.R_slice ho; have HE3 := Aside0.mk (HE1.out.step hb); have HR3 := Aside0.mk (Kd.R_lower ho HE1.out.b.size); have HK3 := Aside0.mk (Kept.then_ HK1.out (Kept.of_below hb (fun k => k = g)) (fun k hk => .inl hk)); clear ho hb hz0; have hz0 : w3.cell? ⟨g, 0, none⟩ = some (.slice A0 l.length c0) := (blk_cell HE3.out.bk 0).trans rfl; have hz1 : w3.cell? ⟨g, 1, none⟩ = some vb := (blk_cell HE3.out.bk 1).trans rfl; have hz2 : w3.cell? ⟨g, 2, none⟩ = some (.int .i64 m) := (blk_cell HE3.out.bk 2).trans rfl; have hf1 := blk_frozen HE3.out.bk 1; have hf2 := blk_frozen HE3.out.bk 2))
            refine bodyPost_ret (results_none rfl _ _ _) rfl ?_
            first | exact ⟨rfl, _, EnvE.put HE3.out HR3.out hon, Kept.setCell (Kept.setCell HK3.out (.inl rfl) _) (.inl rfl) _⟩ | exact ⟨rfl, ⟨_, EnvE.put HE3.out HR3.out hon⟩, Kept.setCell (Kept.setCell HK3.out (.inl rfl) _) (.inl rfl) _⟩
          · rw [if_neg hf] at h
            have H' := Aside0.mk h
            have hfb : ((o.length : Int) == (l.length : Int)) = false := by simp; omega
            clear h hf
            go_wp2_with fail
            go_loopg [42] k (fun kq v42 wr => ∃ (i : Int) (b1 : List Int) (m1 : Int) (vb1 : Value), v42 = .int .i64 i ∧ Aside0 (tour_ext.l0 kq l o s b1 m1 i = some (r1, r2)) ∧ Aside0 (kq ≤ k) ∧ Aside0 (EnvE w wr g A0 l.length c0 b1 m1 vb1) ∧ Aside0 (Kd.R (Kd.int .i64) 3 wr w.heap.size (fun _ => True) (.slice Ao o.length co) o) ∧ Aside0 (Kept W wr (fun k => k = g)))
            case atStart => exact ⟨0, b, m, vb, rfl, H', ⟨Nat.le_refl _⟩, HE1, HO1, HK1⟩
            case round =>
              clear H' HE1 HO1 HK1 hz0
              obtain ⟨i, b1, m1, vb1, rfl, HA, HKq, HE, HO, HK⟩ := hrel
              cases gk with
              | zero => exact absurd HA.out (by simp [tour_ext.l0])
              | succ k1 =>
                have H := HA.out
                clear HA
                simp only [tour_ext.l0] at H
                by_cases c1 : i < (l.length : Int)
                · rw [if_pos c1] at H
                  have c1b : decide (i < (l.length : Int)) = true := decide_eq_true c1
                  by_cases c2 : 0 ≤ i
                  · rw [if_pos c2] at H
                    have Hwi := Aside0.mk (show wrap64 (i + 1) = i + 1 by unfold wrap64; omega)
                    replace H := Option.bind_eq_some_iff.mp H
                    obtain ⟨c, AC0, H⟩ := H
                    have AC := Aside0.mk AC0
                    clear AC0
                    by_cases c3 : c = true
                    · subst c3
                      rw [if_pos rfl] at H
                      have H' := Aside0.mk H
                      clear H ih
                      go_wp2_with (go_at_call 45; go_must (refine (slices_Contains_int_int.calls k1 _ _ o i true _ (Kd.R_reads' HO.out).2.2 (Kd.R_reads' HO.out).2.1 AC.out).mono ?_; rintro e w' ⟨rfl, ⟨nd, rfl⟩⟩; have HE2 := Aside0.mk (HE.out.drewN nd); have HO2 := Aside0.mk (Kd.R_drewN HO.out nd); have HK2 := Aside0.mk (Kept.then_ HK.out (Kept.of_below (Drawn0.below ⟨⟨nd, rfl⟩⟩) (fun k => k = g)) (fun k hk => .inl hk))))
                      go_roundg k1
                      case measure => have := HKq.out; omega
                      case rel => exact ⟨wrap64 (i + 1), b1, m1, vb1, (by rw [Hwi.out]), H', ⟨by have := HKq.out; omega⟩, HE2, HO2, HK2⟩
                    · rw [if_neg c3] at H
                      replace c3 := Bool.eq_false_iff.mpr c3
                      subst c3
                      have hj : wrap64 ((o.length : Int) - 1) = (o.length : Int) - 1 := by unfold wrap64; omega
                      obtain ⟨j, hjd⟩ : ∃ j : Int, (o.length : Int) - 1 = j := ⟨_, rfl⟩
                      obtain ⟨y, hy⟩ : ∃ y : Int, rd o j = y := ⟨_, rfl⟩
                      rw [hjd, hy] at H
                      by_cases c4 : 0 ≤ y
                      · rw [if_pos c4] at H
                        by_cases c5 : y < (l.length : Int)
                        · rw [if_pos c5] at H
                          replace H := Option.bind_eq_some_iff.mp H
                          obtain ⟨d, AD0, H⟩ := H
                          replace H := Option.bind_eq_some_iff.mp H
                          obtain ⟨⟨t1, t2⟩, AF0, H⟩ := H
                          have AD := Aside0.mk AD0
                          have AF := Aside0.mk AF0
                          have H' := Aside0.mk H
                          have HK2 := Aside0.mk (show k1 < k + 1 by have := HKq.out; omega)
                          clear AD0 AF0 H
                          have hjw : IntKind.i64.wrap ((o.length : Int) - 1) = j := by rw [i64_w, hj, hjd]
                          have j0 : 0 ≤ j := by omega
                          have j1 : j < (o.length : Int) := by omega
                          go_upto_region 7 with (go_at_call 45; go_must (refine (slices_Contains_int_int.calls k1 _ _ o i false _ (Kd.R_reads' HO.out).2.2 (Kd.R_reads' HO.out).2.1 AC.out).mono ?_; rintro e w' ⟨rfl, ⟨nd, rfl⟩⟩; have HE2 := Aside0.mk (HE.out.drewN nd); have HO2 := Aside0.mk (Kd.R_drewN HO.out nd); have HK3 := Aside0.mk (Kept.then_ HK.out (Kept.of_below (Drawn0.below ⟨⟨nd, rfl⟩⟩) (fun k => k = g)) (fun k hk => .inl hk))))
                          clear HE HO HK
                          generalize wr.drewN nd = wx at HE2 HO2 HK3 ⊢
                          have HE := Aside0.mk (EnvE.drew HE2.out)
                          have HO := Aside0.mk (Kd.R_drew HO2.out)
                          have HK := Aside0.mk (Kept.then_ HK3.out (Kept.of_below (below_drew1 (Below.refl _ _)) (fun k => k = g)) (fun k hk => .inl hk))
                          have HBr := Aside0.mk (Below.refl wx.drew.heap.size wx.drew)
                          have HWs := Aside0.mk (show w.heap.size ≤ wx.drew.heap.size from HE.out.b.size)
                          clear HE2 HO2 HK3
                          obtain ⟨ado, eo, hx1⟩ := Kd.at_int (Kd.R_reads' HO.out).2.2 j j0 j1
                          obtain ⟨adl, el, hx2, hx3⟩ := at_T31 (Kd.C_below HL.out HE.out.b) y c4 c5
                          obtain ⟨adl', el', hx4, hx5⟩ := at_T31 (Kd.C_below HL.out HE.out.b) i c2 c1
                          subst eo
                          subst el
                          obtain rfl : adl = adl' := by injection el'
                          rw [hy] at hx1
                          have hx0 : wx.drew.cell? ⟨g, 0, none⟩ = some (.slice (some adl) l.length c0) := (blk_cell HE.out.bk 0).trans rfl
                          have HX := Aside0.mk (And.intro hx0 (And.intro hx1 (And.intro hx2 (And.intro hx3 (And.intro hx4 hx5)))))
                          clear el' hj hjd hy
                          have j0' := eq_true j0
                          have j1' := eq_true j1
                          have c2' := eq_true c2
                          have c1' := eq_true c1
                          have c4' := eq_true c4
                          have c5' := eq_true c5
                          refine start_ (n := 29) (S := fun w' => w'.cell? ⟨g, 0, none⟩ = some (.slice (some adl) l.length c0) ∧ w'.cell? (ado.add j.toNat) = some (.int .i64 y) ∧ w'.cell? (adl.add (y.toNat * 2)) = some (.int .i64 (rd_T31 l y).f0) ∧ w'.cell? ⟨(adl.add (y.toNat * 2)).block, (adl.add (y.toNat * 2)).off + 1, none⟩ = some (.int .i64 (rd_T31 l y).f1) ∧ w'.cell? (adl.add (i.toNat * 2)) = some (.int .i64 (rd_T31 l i).f0) ∧ w'.cell? ⟨(adl.add (i.toNat * 2)).block, (adl.add (i.toNat * 2)).off + 1, none⟩ = some (.int .i64 (rd_T31 l i).f1)) (ds := [28]) #[false, false, false, false, false, false, false, false, false, false, false, false, false, false, false, false, false, false, false, false, false, false, false, false, false, false, false, false, false] (by kernel_rfl) rfl rfl ⟨hx0, hx1, hx2, hx3, hx4, hx5⟩ (fun hHeld => ?_)
                          generalize wx.drew = wd at HE HO HX HBr HK HWs hHeld ⊢
                          refine pure_ (i := 0) (N := some 49) (v := ?_) (a' := ?_) #[true, false, false, false, false, false, false, false, false, false, false, false, false, false, false, false, false, false, false, false, false, false, false, false, false, false, false, false, false] rfl rfl (by kernel_rfl) (fun _ _ _ h => h) (Or.inl ⟨by rfl, ?_⟩) ?_ ?_
                          rotate_left
                          · intro w'
                            go_simp
                            with_reducible rfl
                          rotate_left
                          · simp only [Act.put, List.setIfInBounds_toArray, List.set_cons_zero, List.set_cons_succ, i64_w, i32_w]
                            rfl
                          refine pure_ (i := 1) (N := some 50) (v := ?_) (a' := ?_) #[true, true, false, false, false, false, false, false, false, false, false, false, false, false, false, false, false, false, false, false, false, false, false, false, false, false, false, false, false] rfl rfl (by kernel_rfl) (fun _ _ _ h => h) (Or.inl ⟨by rfl, ?_⟩) ?_ ?_
                          rotate_left
                          · intro w'
                            go_simp
                            with_reducible rfl
                          rotate_left
                          · simp only [Act.put, List.setIfInBounds_toArray, List.set_cons_zero, List.set_cons_succ, i64_w, i32_w]
                            rfl
                          refine pure_ (i := 3) (N := some 52) (v := ?_) (a' := ?_) #[true, true, false, true, false, false, false, false, false, false, false, false, false, false, false, false, false, false, false, false, false, false, false, false, false, false, false, false, false] rfl rfl (by kernel_rfl) (fun _ _ _ h => h) (Or.inl ⟨by rfl, ?_⟩) ?_ ?_
                          rotate_left
                          · intro w'
                            go_simp
                            with_reducible rfl
                          rotate_left
                          · simp only [Act.put, List.setIfInBounds_toArray, List.set_cons_zero, List.set_cons_succ, i64_w, i32_w]
                            rfl
                          refine pure_ (i := 6) (N := some 55) (v := ?_) (a' := ?_) #[true, true, false, true, false, false, true, false, false, false, false, false, false, false, false, false, false, false, false, false, false, false, false, false, false, false, false, false, false] rfl rfl (by kernel_rfl) (fun _ _ _ h => h) (Or.inl ⟨by rfl, ?_⟩) ?_ ?_
                          rotate_left
                          · intro w'
                            go_simp
                            with_reducible rfl
                          rotate_left
                          · simp only [Act.put, List.setIfInBounds_toArray, List.set_cons_zero, List.set_cons_succ, i64_w, i32_w]
                            rfl
                          refine pure_ (i := 7) (N := some 56) (v := ?_) (a' := ?_) #[true, true, false, true, false, false, true, true, false, false, false, false, false, false, false, false, false, false, false, false, false, false, false, false, false, false, false, false, false] rfl rfl (by kernel_rfl) (fun _ _ _ h => h) (Or.inl ⟨by rfl, ?_⟩) ?_ ?_
                          rotate_left
                          · intro w'
                            go_simp
                            with_reducible rfl
                          rotate_left
                          · simp only [Act.put, List.setIfInBounds_toArray, List.set_cons_zero, List.set_cons_succ, i64_w, i32_w]
                            rfl
                          refine pure_ (i := 8) (N := some 57) (v := ?_) (a' := ?_) #[true, true, false, true, false, false, true, true, true, false, false, false, false, false, false, false, false, false, false, false, false, false, false, false, false, false, false, false, false] rfl rfl (by kernel_rfl) (fun _ _ _ h => h) (Or.inl ⟨by rfl, ?_⟩) ?_ ?_
                          rotate_left
                          · intro w'
                            go_simp
                            with_reducible rfl
                          rotate_left
                          · simp only [Act.put, List.setIfInBounds_toArray, List.set_cons_zero, List.set_cons_succ, i64_w, i32_w]
                            rfl
                          refine pure_ (i := 9) (N := some 58) (v := ?_) (a' := ?_) #[true, true, false, true, false, false, true, true, true, true, false, false, false, false, false, false, false, false, false, false, false, false, false, false, false, false, false, false, false] rfl rfl (by kernel_rfl) (fun _ _ _ h => h) (Or.inl ⟨by rfl, ?_⟩) ?_ ?_
                          rotate_left
                          · intro w'
                            go_simp
                            with_reducible rfl
                          rotate_left
                          · simp only [Act.put, List.setIfInBounds_toArray, List.set_cons_zero, List.set_cons_succ, i64_w, i32_w]
                            rfl
                          refine pure_ (i := 11) (N := some 60) (v := ?_) (a' := ?_) #[true, true, false, true, false, false, true, true, true, true, false, true, false, false, false, false, false, false, false, false, false, false, false, false, false, false, false, false, false] rfl rfl (by kernel_rfl) (fun _ _ _ h => h) (Or.inl ⟨by rfl, ?_⟩) ?_ ?_
                          rotate_left
                          · intro w'
                            go_simp
                            with_reducible rfl
                          rotate_left
                          · simp only [Act.put, List.setIfInBounds_toArray, List.set_cons_zero, List.set_cons_succ, i64_w, i32_w]
                            rfl
                          refine pure_ (i := 12) (N := some 61) (v := ?_) (a' := ?_) #[true, true, false, true, false, false, true, true, true, true, false, true, true, false, false, false, false, false, false, false, false, false, false, false, false, false, false, false, false] rfl rfl (by kernel_rfl) (fun _ _ _ h => h) (Or.inl ⟨by rfl, ?_⟩) ?_ ?_
                          rotate_left
                          · intro w'
                            go_simp
                            with_reducible rfl
                          rotate_left
                          · simp only [Act.put, List.setIfInBounds_toArray, List.set_cons_zero, List.set_cons_succ, i64_w, i32_w]
                            rfl
                          refine pure_ (i := 13) (N := some 62) (v := ?_) (a' := ?_) #[true, true, false, true, false, false, true, true, true, true, false, true, true, true, false, false, false, false, false, false, false, false, false, false, false, false, false, false, false] rfl rfl (by kernel_rfl) (fun _ _ _ h => h) (Or.inl ⟨by rfl, ?_⟩) ?_ ?_
                          rotate_left
                          · intro w'
                            go_simp
                            with_reducible rfl
                          rotate_left
                          · simp only [Act.put, List.setIfInBounds_toArray, List.set_cons_zero, List.set_cons_succ, i64_w, i32_w]
                            rfl
                          refine pure_ (i := 14) (N := some 63) (v := ?_) (a' := ?_) #[true, true, false, true, false, false, true, true, true, true, false, true, true, true, true, false, false, false, false, false, false, false, false, false, false, false, false, false, false] rfl rfl (by kernel_rfl) (fun _ _ _ h => h) (Or.inl ⟨by rfl, ?_⟩) ?_ ?_
                          rotate_left
                          · intro w'
                            go_simp
                            with_reducible rfl
                          rotate_left
                          · simp only [Act.put, List.setIfInBounds_toArray, List.set_cons_zero, List.set_cons_succ, i64_w, i32_w]
                            rfl
                          refine pure_ (i := 15) (N := some 64) (v := ?_) (a' := ?_) #[true, true, false, true, false, false, true, true, true, true, false, true, true, true, true, true, false, false, false, false, false, false, false, false, false, false, false, false, false] rfl rfl (by kernel_rfl) (fun _ _ _ h => h) (Or.inl ⟨by rfl, ?_⟩) ?_ ?_
                          rotate_left
                          · intro w'
                            go_simp
                            with_reducible rfl
                          rotate_left
                          · simp only [Act.put, List.setIfInBounds_toArray, List.set_cons_zero, List.set_cons_succ, i64_w, i32_w]
                            rfl
                          refine pure_ (i := 19) (N := some 68) (v := ?_) (a' := ?_) #[true, true, false, true, false, false, true, true, true, true, false, true, true, true, true, true, false, false, false, true, false, false, false, false, false, false, false, false, false] rfl rfl (by kernel_rfl) (fun _ _ _ h => h) (Or.inl ⟨by rfl, ?_⟩) ?_ ?_
                          rotate_left
                          · intro w'
                            go_simp
                            with_reducible rfl
                          rotate_left
                          · simp only [Act.put, List.setIfInBounds_toArray, List.set_cons_zero, List.set_cons_succ, i64_w, i32_w]
                            rfl
                          refine pure_ (i := 20) (N := some 69) (v := ?_) (a' := ?_) #[true, true, false, true, false, false, true, true, true, true, false, true, true, true, true, true, false, false, false, true, true, false, false, false, false, false, false, false, false] rfl rfl (by kernel_rfl) (fun _ _ _ h => h) (Or.inl ⟨by rfl, ?_⟩) ?_ ?_
                          rotate_left
                          · intro w'
                            go_simp
                            with_reducible rfl
                          rotate_left
                          · simp only [Act.put, List.setIfInBounds_toArray, List.set_cons_zero, List.set_cons_succ, i64_w, i32_w]
                            rfl
                          refine pure_ (i := 21) (N := some 70) (v := ?_) (a' := ?_) #[true, true, false, true, false, false, true, true, true, true, false, true, true, true, true, true, false, false, false, true, true, true, false, false, false, false, false, false, false] rfl rfl (by kernel_rfl) (fun _ _ _ h => h) (Or.inl ⟨by rfl, ?_⟩) ?_ ?_
                          rotate_left
                          · intro w'
                            go_simp
                            with_reducible rfl
                          rotate_left
                          · simp only [Act.put, List.setIfInBounds_toArray, List.set_cons_zero, List.set_cons_succ, i64_w, i32_w]
                            rfl
                          refine pure_ (i := 23) (N := some 72) (v := ?_) (a' := ?_) #[true, true, false, true, false, false, true, true, true, true, false, true, true, true, true, true, false, false, false, true, true, true, false, true, false, false, false, false, false] rfl rfl (by kernel_rfl) (fun _ _ _ h => h) (Or.inl ⟨by rfl, ?_⟩) ?_ ?_
                          rotate_left
                          · intro w'
                            go_simp
                            with_reducible rfl
                          rotate_left
                          · simp only [Act.put, List.setIfInBounds_toArray, List.set_cons_zero, List.set_cons_succ, i64_w, i32_w]
                            rfl
                          refine take_ (i := 10) (N := some 59) (v := ?_) (a' := ?_) #[true, true, false, true, false, false, true, true, true, true, true, true, true, true, true, true, false, false, false, true, true, true, false, true, false, false, false, false, false] rfl rfl (by kernel_rfl) (fun _ _ _ h => h) (Or.inl ⟨by rfl, ?_⟩) hHeld ?_ ?_
                          rotate_left
                          · rintro w' ⟨s0, s1, s2, s3, s4, s5⟩
                            go_simp
                            with_reducible rfl
                          rotate_left
                          · simp only [Act.put, List.setIfInBounds_toArray, List.set_cons_zero, List.set_cons_succ, i64_w, i32_w]
                            rfl
                          refine take_ (i := 16) (N := some 65) (v := ?_) (a' := ?_) #[true, true, false, true, false, false, true, true, true, true, true, true, true, true, true, true, true, false, false, true, true, true, false, true, false, false, false, false, false] rfl rfl (by kernel_rfl) (fun _ _ _ h => h) (Or.inl ⟨by rfl, ?_⟩) hHeld ?_ ?_
                          rotate_left
                          · rintro w' ⟨s0, s1, s2, s3, s4, s5⟩
                            go_simp
                            with_reducible rfl
                          rotate_left
                          · simp only [Act.put, List.setIfInBounds_toArray, List.set_cons_zero, List.set_cons_succ, i64_w, i32_w]
                            rfl
                          refine pure_ (i := 17) (N := some 66) (v := ?_) (a' := ?_) #[true, true, false, true, false, false, true, true, true, true, true, true, true, true, true, true, true, true, false, true, true, true, false, true, false, false, false, false, false] rfl rfl (by kernel_rfl) (fun _ _ _ h => h) (Or.inl ⟨by rfl, ?_⟩) ?_ ?_
                          rotate_left
                          · intro w'
                            go_simp
                            with_reducible rfl
                          rotate_left
                          · simp only [Act.put, List.setIfInBounds_toArray, List.set_cons_zero, List.set_cons_succ, i64_w, i32_w]
                            rfl
                          refine take_ (i := 18) (N := some 67) (v := ?_) (a' := ?_) #[true, true, false, true, false, false, true, true, true, true, true, true, true, true, true, true, true, true, true, true, true, true, false, true, false, false, false, false, false] rfl rfl (by kernel_rfl) (fun _ _ _ h => h) (Or.inl ⟨by rfl, ?_⟩) hHeld ?_ ?_
                          rotate_left
                          · rintro w' ⟨s0, s1, s2, s3, s4, s5⟩
                            go_simp
                            with_reducible rfl
                          rotate_left
                          · simp only [Act.put, List.setIfInBounds_toArray, List.set_cons_zero, List.set_cons_succ, i64_w, i32_w]
                            rfl
                          refine take_ (i := 22) (N := some 71) (v := ?_) (a' := ?_) #[true, true, false, true, false, false, true, true, true, true, true, true, true, true, true, true, true, true, true, true, true, true, true, true, false, false, false, false, false] rfl rfl (by kernel_rfl) (fun _ _ _ h => h) (Or.inl ⟨by rfl, ?_⟩) hHeld ?_ ?_
                          rotate_left
                          · rintro w' ⟨s0, s1, s2, s3, s4, s5⟩
                            go_simp
                            with_reducible rfl
                          rotate_left
                          · simp only [Act.put, List.setIfInBounds_toArray, List.set_cons_zero, List.set_cons_succ, i64_w, i32_w]
                            rfl
                          refine pure_ (i := 24) (N := some 73) (v := ?_) (a' := ?_) #[true, true, false, true, false, false, true, true, true, true, true, true, true, true, true, true, true, true, true, true, true, true, true, true, true, false, false, false, false] rfl rfl (by kernel_rfl) (fun _ _ _ h => h) (Or.inl ⟨by rfl, ?_⟩) ?_ ?_
                          rotate_left
                          · intro w'
                            go_simp
                            with_reducible rfl
                          rotate_left
                          · simp only [Act.put, List.setIfInBounds_toArray, List.set_cons_zero, List.set_cons_succ, i64_w, i32_w]
                            rfl
                          refine take_ (i := 25) (N := some 74) (v := ?_) (a' := ?_) #[true, true, false, true, false, false, true, true, true, true, true, true, true, true, true, true, true, true, true, true, true, true, true, true, true, true, false, false, false] rfl rfl (by kernel_rfl) (fun _ _ _ h => h) (Or.inl ⟨by rfl, ?_⟩) hHeld ?_ ?_
                          rotate_left
                          · rintro w' ⟨s0, s1, s2, s3, s4, s5⟩
                            go_simp
                            with_reducible rfl
                          rotate_left
                          · simp only [Act.put, List.setIfInBounds_toArray, List.set_cons_zero, List.set_cons_succ, i64_w, i32_w]
                            rfl
                          refine join_ (σ := Value × Value) 4 #[true, true, true, true, true, false, true, true, true, true, true, true, true, true, true, true, true, true, true, true, true, true, true, true, true, true, false, false, false] (fun s => [(51, s.1), (53, s.2)]) (fun s w_ => Aside0 (Kd.R (Kd.int .i64) 3 w_ wd.heap.size (fun _ => True) s.1 o) ∧ Aside0 (Kd.R (Kd.int .i64) 3 w_ wd.heap.size (fun _ => True) s.2 [i]) ∧ Aside0 (Below wd.heap.size wd w_)) ?_ ?_
                          rotate_left
                          · intro hCont
                            refine two_ (i := 2) (j := 4) (Ni := some 51) (Nj := some 53) #[true, true, true, true, false, false, true, true, true, true, true, true, true, true, true, true, true, true, true, true, true, true, true, true, true, true, false, false, false] #[true, true, false, true, true, false, true, true, true, true, true, true, true, true, true, true, true, true, true, true, true, true, true, true, true, true, false, false, false] rfl rfl rfl rfl (by kernel_rfl) (by decide) (by decide) (fun K hK => ?_) (fun K hK => ?_)
                            · skip
                              refine goes_ Try.func41 (by kernel_rfl) rfl #[.slice (some ado) o.length co] (by rfl) rfl rfl (by simp only [List.map_toArray, List.map_cons, List.map_nil]; rfl) ?_
                              with_reducible refine (slices_Clone_int_int.calls_of _ _ o _ ?cl1 ?cl2).mono ?_
                              (case cl1 => exact Kd.C_below (Kd.R_reads' HO.out).2.2 HBr.out)
                              (case cl2 => omega)
                              rintro e w3 ⟨v51, rfl, ho, hb⟩
                              refine ⟨_, rfl, ?_⟩
                              have HO51 := Aside0.mk (Kd.R_lower ho HBr.out.size)
                              have nB_ := Aside0.mk (below_step HBr.out hb)
                              clear HBr ho hb
                              have HBr := nB_
                              clear nB_
                              refine hK.out _ _ ⟨(HBr.out.cell (World.block_lt_of_cell? wd _ HX.out.1)).trans HX.out.1, (HBr.out.cell (World.block_lt_of_cell? wd _ HX.out.2.1)).trans HX.out.2.1, (HBr.out.cell (World.block_lt_of_cell? wd _ HX.out.2.2.1)).trans HX.out.2.2.1, (HBr.out.cell (World.block_lt_of_cell? wd _ HX.out.2.2.2.1)).trans HX.out.2.2.2.1, (HBr.out.cell (World.block_lt_of_cell? wd _ HX.out.2.2.2.2.1)).trans HX.out.2.2.2.2.1, (HBr.out.cell (World.block_lt_of_cell? wd _ HX.out.2.2.2.2.2)).trans HX.out.2.2.2.2.2⟩ (fun hHeld => ?_)
                              clear hK K
                              refine norm_ (a' := ?_) ?_ ?_
                              rotate_left
                              · show Act.put _ (some 51) _ = _
                                simp only [Act.put, List.setIfInBounds_toArray, List.set_cons_zero, List.set_cons_succ, i64_w, i32_w]
                                rfl
                              refine one_ (i := 4) (N := some 53) #[true, true, true, true, true, false, true, true, true, true, true, true, true, true, true, true, true, true, true, true, true, true, true, true, true, true, false, false, false] rfl rfl (by kernel_rfl) (by decide) (fun K hK => ?_)
                              refine Kd.R_lit_step (Kd.int .i64) (w0 := wd) wd.heap.size 3 (by rfl) (N := 53) rfl (xs := [i]) (inner := [.int .i64 i]) (ok := fun _ => True) (okp := fun _ => False) ?hr ?hp (fun _ h => h.elim) trivial HBr.out HBr.out.size (by simp) ?_
                              (case hr => first | (go_simp; done) | (go_simp; rfl))
                              (case hp => exact Reps.one (show Kd.M (Kd.int .i64) _ _ _ i [.int .i64 i] from rfl) (Reps.none _ _))
                              intro v53 w4 ho hb hg hat
                              have HO53 := Aside0.mk ho
                              have n51_ := Aside0.mk (Kd.R_grown HO51.out hg (fun k _ => by simp))
                              clear HO51
                              have HO51 := n51_
                              clear n51_
                              clear HBr
                              have HBr := Aside0.mk hb
                              clear ho hb hg hat
                              refine hK.out _ _ ⟨(HBr.out.cell (World.block_lt_of_cell? wd _ HX.out.1)).trans HX.out.1, (HBr.out.cell (World.block_lt_of_cell? wd _ HX.out.2.1)).trans HX.out.2.1, (HBr.out.cell (World.block_lt_of_cell? wd _ HX.out.2.2.1)).trans HX.out.2.2.1, (HBr.out.cell (World.block_lt_of_cell? wd _ HX.out.2.2.2.1)).trans HX.out.2.2.2.1, (HBr.out.cell (World.block_lt_of_cell? wd _ HX.out.2.2.2.2.1)).trans HX.out.2.2.2.2.1, (HBr.out.cell (World.block_lt_of_cell? wd _ HX.out.2.2.2.2.2)).trans HX.out.2.2.2.2.2⟩ (fun hHeld => ?_)
                              clear hK K
                              refine norm_ (a' := ?_) ?_ ?_
                              rotate_left
                              · show Act.put _ (some 53) _ = _
                                simp only [Act.put, List.setIfInBounds_toArray, List.set_cons_zero, List.set_cons_succ, i64_w, i32_w]
                                rfl
                              exact norm_ (by simp only [putAll, Act.put, List.setIfInBounds_toArray, List.set_cons_zero, List.set_cons_succ]) (hCont (v51, v53) _ ⟨HO51, HO53, HBr⟩)
                            · skip
                              refine Kd.R_lit_step (Kd.int .i64) (w0 := wd) wd.heap.size 3 (by rfl) (N := 53) rfl (xs := [i]) (inner := [.int .i64 i]) (ok := fun _ => True) (okp := fun _ => False) ?hr ?hp (fun _ h => h.elim) trivial HBr.out HBr.out.size (by simp) ?_
                              (case hr => first | (go_simp; done) | (go_simp; rfl))
                              (case hp => exact Reps.one (show Kd.M (Kd.int .i64) _ _ _ i [.int .i64 i] from rfl) (Reps.none _ _))
                              intro v53 w3 ho hb hg hat
                              have HO53 := Aside0.mk ho
                              clear HBr
                              have HBr := Aside0.mk hb
                              clear ho hb hg hat
                              refine hK.out _ _ ⟨(HBr.out.cell (World.block_lt_of_cell? wd _ HX.out.1)).trans HX.out.1, (HBr.out.cell (World.block_lt_of_cell? wd _ HX.out.2.1)).trans HX.out.2.1, (HBr.out.cell (World.block_lt_of_cell? wd _ HX.out.2.2.1)).trans HX.out.2.2.1, (HBr.out.cell (World.block_lt_of_cell? wd _ HX.out.2.2.2.1)).trans HX.out.2.2.2.1, (HBr.out.cell (World.block_lt_of_cell? wd _ HX.out.2.2.2.2.1)).trans HX.out.2.2.2.2.1, (HBr.out.cell (World.block_lt_of_cell? wd _ HX.out.2.2.2.2.2)).trans HX.out.2.2.2.2.2⟩ (fun hHeld => ?_)
                              clear hK K
                              refine norm_ (a' := ?_) ?_ ?_
                              rotate_left
                              · show Act.put _ (some 53) _ = _
                                simp only [Act.put, List.setIfInBounds_toArray, List.set_cons_zero, List.set_cons_succ, i64_w, i32_w]
                                rfl
                              refine one_ (i := 2) (N := some 51) #[true, true, true, true, true, false, true, true, true, true, true, true, true, true, true, true, true, true, true, true, true, true, true, true, true, true, false, false, false] rfl rfl (by kernel_rfl) (by decide) (fun K hK => ?_)
                              refine goes_ Try.func41 (by kernel_rfl) rfl #[.slice (some ado) o.length co] (by rfl) rfl rfl (by simp only [List.map_toArray, List.map_cons, List.map_nil]; rfl) ?_
                              with_reducible refine (slices_Clone_int_int.calls_of _ _ o _ ?cl1 ?cl2).mono ?_
                              (case cl1 => exact Kd.C_below (Kd.R_reads' HO.out).2.2 HBr.out)
                              (case cl2 => omega)
                              rintro e w4 ⟨v51, rfl, ho, hb⟩
                              refine ⟨_, rfl, ?_⟩
                              have HO51 := Aside0.mk (Kd.R_lower ho HBr.out.size)
                              have n53_ := Aside0.mk (Kd.R_below HO53.out hb)
                              clear HO53
                              have HO53 := n53_
                              clear n53_
                              have nB_ := Aside0.mk (below_step HBr.out hb)
                              clear HBr ho hb
                              have HBr := nB_
                              clear nB_
                              refine hK.out _ _ ⟨(HBr.out.cell (World.block_lt_of_cell? wd _ HX.out.1)).trans HX.out.1, (HBr.out.cell (World.block_lt_of_cell? wd _ HX.out.2.1)).trans HX.out.2.1, (HBr.out.cell (World.block_lt_of_cell? wd _ HX.out.2.2.1)).trans HX.out.2.2.1, (HBr.out.cell (World.block_lt_of_cell? wd _ HX.out.2.2.2.1)).trans HX.out.2.2.2.1, (HBr.out.cell (World.block_lt_of_cell? wd _ HX.out.2.2.2.2.1)).trans HX.out.2.2.2.2.1, (HBr.out.cell (World.block_lt_of_cell? wd _ HX.out.2.2.2.2.2)).trans HX.out.2.2.2.2.2⟩ (fun hHeld => ?_)
                              clear hK K
                              refine norm_ (a' := ?_) ?_ ?_
                              rotate_left
                              · show Act.put _ (some 51) _ = _
                                simp only [Act.put, List.setIfInBounds_toArray, List.set_cons_zero, List.set_cons_succ, i64_w, i32_w]
                                rfl
                              exact norm_ (by simp only [putAll, Act.put, List.setIfInBounds_toArray, List.set_cons_zero, List.set_cons_succ]) (hCont (v51, v53) _ ⟨HO51, HO53, HBr⟩)
                          rintro ⟨v51, v53⟩ w5 ⟨HO51, HO53, HBr⟩
                          have hHeld : (fun w' => w'.cell? ⟨g, 0, none⟩ = some (.slice (some adl) l.length c0) ∧ w'.cell? (ado.add j.toNat) = some (.int .i64 y) ∧ w'.cell? (adl.add (y.toNat * 2)) = some (.int .i64 (rd_T31 l y).f0) ∧ w'.cell? ⟨(adl.add (y.toNat * 2)).block, (adl.add (y.toNat * 2)).off + 1, none⟩ = some (.int .i64 (rd_T31 l y).f1) ∧ w'.cell? (adl.add (i.toNat * 2)) = some (.int .i64 (rd_T31 l i).f0) ∧ w'.cell? ⟨(adl.add (i.toNat * 2)).block, (adl.add (i.toNat * 2)).off + 1, none⟩ = some (.int .i64 (rd_T31 l i).f1)) w5 := ⟨(HBr.out.cell (World.block_lt_of_cell? wd _ HX.out.1)).trans HX.out.1, (HBr.out.cell (World.block_lt_of_cell? wd _ HX.out.2.1)).trans HX.out.2.1, (HBr.out.cell (World.block_lt_of_cell? wd _ HX.out.2.2.1)).trans HX.out.2.2.1, (HBr.out.cell (World.block_lt_of_cell? wd _ HX.out.2.2.2.1)).trans HX.out.2.2.2.1, (HBr.out.cell (World.block_lt_of_cell? wd _ HX.out.2.2.2.2.1)).trans HX.out.2.2.2.2.1, (HBr.out.cell (World.block_lt_of_cell? wd _ HX.out.2.2.2.2.2)).trans HX.out.2.2.2.2.2⟩
                          obtain ⟨A53, c53, e53⟩ := Kd.R_slice HO53.out
                          dsimp only at e53 HO51 HO53
                          subst e53
                          refine norm_ (a' := ?_) ?_ ?_
                          rotate_left
                          · simp only [putAll, Act.put, List.setIfInBounds_toArray, List.set_cons_zero, List.set_cons_succ]
                            rfl
                          refine one_ (i := 5) (N := some 54) #[true, true, true, true, true, true, true, true, true, true, true, true, true, true, true, true, true, true, true, true, true, true, true, true, true, true, false, false, false] rfl rfl (by kernel_rfl) (by decide) (fun K hK => ?_)
                          refine Kd.R_append_rows_step (Kd.int .i64) (Rr := (Kd.int .i64).K w5) (w0 := wd) wd.heap.size (by rfl) (.tmp 51) (.tmp 53) 23 3 (.int .i64 0) 8 rfl Try.underlying23 info3 rfl (by decide) (by omega) _ o [i] _ 1 _ (fun _ => True) (fun _ => False) rfl rfl HO51.out (Kd.R_reads' HO53.out).2.2 (fun _ _ h => h) (fun _ h => h.elim) (fun _ _ => trivial) HBr.out HBr.out.size (by omega) ?_
                          intro v54 w6 ho hb hg hat
                          have HO54 := Aside0.mk ho
                          clear HBr
                          have HBr := Aside0.mk hb
                          clear ho hb hg hat
                          refine hK.out _ _ ⟨(HBr.out.cell (World.block_lt_of_cell? wd _ HX.out.1)).trans HX.out.1, (HBr.out.cell (World.block_lt_of_cell? wd _ HX.out.2.1)).trans HX.out.2.1, (HBr.out.cell (World.block_lt_of_cell? wd _ HX.out.2.2.1)).trans HX.out.2.2.1, (HBr.out.cell (World.block_lt_of_cell? wd _ HX.out.2.2.2.1)).trans HX.out.2.2.2.1, (HBr.out.cell (World.block_lt_of_cell? wd _ HX.out.2.2.2.2.1)).trans HX.out.2.2.2.2.1, (HBr.out.cell (World.block_lt_of_cell? wd _ HX.out.2.2.2.2.2)).trans HX.out.2.2.2.2.2⟩ (fun hHeld => ?_)
                          clear hK K
                          refine norm_ (a' := ?_) ?_ ?_
                          rotate_left
                          · show Act.put _ (some 54) _ = _
                            simp only [Act.put, List.setIfInBounds_toArray, List.set_cons_zero, List.set_cons_succ, i64_w, i32_w]
                            rfl
                          refine one_ (i := 26) (N := some 75) #[true, true, true, true, true, true, true, true, true, true, true, true, true, true, true, true, true, true, true, true, true, true, true, true, true, true, true, false, false] rfl rfl (by kernel_rfl) (by decide) (fun K hK => ?_)
                          refine goes_ Try.func15 (by kernel_rfl) rfl #[.agg #[.int .i64 (rd_T31 l y).f0, .int .i64 (rd_T31 l y).f1], .agg #[.int .i64 (rd_T31 l i).f0, .int .i64 (rd_T31 l i).f1]] (by rfl) rfl rfl (by simp only [List.map_toArray, List.map_cons, List.map_nil]; rfl) ?_
                          with_reducible refine (tour_Distance.calls _ _ _ _ d _ AD.out).mono ?_
                          rintro e w7 ⟨rfl, hb⟩
                          refine ⟨_, rfl, ?_⟩
                          have n54_ := Aside0.mk (Kd.R_below HO54.out hb)
                          clear HO54
                          have HO54 := n54_
                          clear n54_
                          have nB_ := Aside0.mk (below_step HBr.out hb)
                          clear HBr hb
                          have HBr := nB_
                          clear nB_
                          obtain ⟨A54, c54, e54⟩ := Kd.R_slice HO54.out
                          subst e54
                          refine hK.out _ _ ⟨(HBr.out.cell (World.block_lt_of_cell? wd _ HX.out.1)).trans HX.out.1, (HBr.out.cell (World.block_lt_of_cell? wd _ HX.out.2.1)).trans HX.out.2.1, (HBr.out.cell (World.block_lt_of_cell? wd _ HX.out.2.2.1)).trans HX.out.2.2.1, (HBr.out.cell (World.block_lt_of_cell? wd _ HX.out.2.2.2.1)).trans HX.out.2.2.2.1, (HBr.out.cell (World.block_lt_of_cell? wd _ HX.out.2.2.2.2.1)).trans HX.out.2.2.2.2.1, (HBr.out.cell (World.block_lt_of_cell? wd _ HX.out.2.2.2.2.2)).trans HX.out.2.2.2.2.2⟩ (fun hHeld => ?_)
                          clear hK K
                          refine norm_ (a' := ?_) ?_ ?_
                          rotate_left
                          · show Act.put _ (some 75) _ = _
                            simp only [Act.put, List.setIfInBounds_toArray, List.set_cons_zero, List.set_cons_succ, i64_w, i32_w]
                            rfl
                          refine pure_ (i := 27) (N := some 76) (v := ?_) (a' := ?_) #[true, true, true, true, true, true, true, true, true, true, true, true, true, true, true, true, true, true, true, true, true, true, true, true, true, true, true, true, false] rfl rfl (by kernel_rfl) (fun _ _ _ h => h) (Or.inl ⟨by rfl, ?_⟩) ?_ ?_
                          rotate_left
                          · intro w'
                            go_simp
                            with_reducible rfl
                          rotate_left
                          · simp only [Act.put, List.setIfInBounds_toArray, List.set_cons_zero, List.set_cons_succ, i64_w, i32_w]
                            rfl
                          refine last_ (i := 28) (N := some 77) #[true, true, true, true, true, true, true, true, true, true, true, true, true, true, true, true, true, true, true, true, true, true, true, true, true, true, true, true, true] rfl rfl (by kernel_rfl) (by decide) (fun K hK => ?_)
                          have E7 := Aside0.mk (EnvE.step HE.out HBr.out)
                          have O7 := Aside0.mk (Kd.R_lower HO54.out HWs.out)
                          refine goes_ Try.func38 (by kernel_rfl) rfl #[.pointer (some ⟨g, 0, none⟩), .slice A54 (o ++ [i]).length c54, .int .i64 (wrap64 (s + d))] (by rfl) rfl rfl (by simp only [List.map_toArray, List.map_cons, List.map_nil]; rfl) ?_
                          with_reducible refine (ih k1 HK2.out (o ++ [i]) (wrap64 (s + d)) b1 m1 t1 t2 vb1 A54 c54 _ E7.out O7.out AF.out).mono ?_
                          rintro e w8 ⟨rfl, vb2, hE, hK⟩
                          refine ⟨_, rfl, ?_⟩
                          have HE8 := Aside0.mk hE
                          have HK8 := Aside0.mk hK
                          clear hE hK
                          refine hK.out _ _ ?_
                          clear hK K
                          refine norm_ (a' := ?_) ?_ ?_
                          rotate_left
                          · show Act.put _ (some 77) _ = _
                            simp only [Act.put, List.setIfInBounds_toArray, List.set_cons_zero, List.set_cons_succ, i64_w, i32_w]
                            rfl
                          refine done_ (by kernel_rfl) ?_
                          have HO8 := Aside0.mk (R_keptG (Kd.R_below HO.out HBr.out) E7.out.bk HK8.out)
                          have HK9 := Aside0.mk (Kept.then_ (Kept.then_ HK.out (Kept.of_below HBr.out (fun k => k = g)) (fun k hk => .inl hk)) HK8.out (fun k hk => .inl hk))
                          go_wp2_with fail
                          go_roundg k1
                          case measure => have := HKq.out; omega
                          case rel => exact ⟨wrap64 (i + 1), t1, t2, vb2, (by rw [Hwi.out]), H', ⟨by have := HKq.out; omega⟩, HE8, HO8, HK9⟩
                        · rw [if_neg c5] at H; cases H
                      · rw [if_neg c4] at H; cases H
                  · rw [if_neg c2] at H; cases H
                · rw [if_neg c1] at H
                  obtain ⟨rfl, rfl⟩ : b1 = r1 ∧ m1 = r2 := by simpa using H
                  have c1b : decide (i < (l.length : Int)) = false := decide_eq_false c1
                  clear H ih
                  go_wp2_with fail
                  go_end0
                  first | exact ⟨rfl, vb1, HE.out, HK.out⟩ | exact ⟨rfl, ⟨vb1, HE.out⟩, HK.out⟩
    · rw [if_neg ho2] at h; cases h
  · rw [if_neg ho1] at h; cases h
end Go.Proofs.Ytohjocajaanhaaa.P
