import Derived.Test.YtbbkclcfmcjlgaaT7M25
import Derived.Test.YtbbkclcfmcjlgaaT7GRead
import Derived.Test.YtbbkclcfmcjlgaaT7M21
import Derived.Test.YtbbkclcfmcjlgaaT7M23
import Derived.Test.YtbbkclcfmcjlgaaT7M24


namespace Go.Proofs.Ytbbkclcfmcjlgaa.P
open Go.RowKit Go.Proofs.YtbbkclcfmcjlgaaW.PrintWords Go.Proofs.YtbbkclcfmcjlgaaW.PrintLast Go.Proofs.YtbbkclcfmcjlgaaW.PrintMore
set_option linter.unusedVariables false
set_option linter.unusedSimpArgs false

def cyc.l0 (n : Int) (bh : List (List Int)) : Nat → Int → List Bool → List Int → List Int → Option (List Int × Bool)
 | 0, _, _, _, _ => none
 | k + 1, i, D, T, P => if i < n then ((visit.f bh k i D T P).bind fun u => if u.1 = [] then cyc.l0 n bh k (wrap64 (i + 1)) u.2.1 u.2.2.1 u.2.2.2 else some (u.1, true)) else some ([], false)
def precedence_Cycle.f (k : Nat) (n : Int) (l : List S47) : Option (List Int × Bool) := (precedence_Valid.f k n l).bind fun e => if e = 0 then ((precedence_read.f k n l).bind fun u => if 0 ≤ n ∧ n.toNat ≤ 35184372088832 then cyc.l0 n u.2 k 0 (List.replicate n.toNat false) (List.replicate n.toNat 0) [] else none) else some ([], false)
theorem cyc.mono (n : Int) (bh : List (List Int)) : ∀ k i D T P, LeO (cyc.l0 n bh k i D T P) (cyc.l0 n bh (k + 1) i D T P) := by
 intro k
 induction k with
 | zero => intro i D T P; exact LeO.none _
 | succ k ih =>
  intro i D T P
  rw [cyc.l0, cyc.l0]
  exact LeO.ite (LeO.bind ((visit.mono_l bh k).1 _ _ _ _) (fun u => LeO.ite (ih _ _ _ _) (LeO.refl _))) (LeO.refl _)
theorem precedence_Cycle.mono : ∀ a0 a1 k, LeO (precedence_Cycle.f k a0 a1) (precedence_Cycle.f (k + 1) a0 a1) := by
 intro a0 a1 k
 unfold precedence_Cycle.f
 exact LeO.bind (precedence_Valid.mono _ _ _) (fun e => LeO.ite (LeO.bind (precedence_read.mono _ _ _) (fun u => LeO.ite (cyc.mono _ _ _ _ _ _ _) (LeO.none _))) (LeO.refl _))

theorem run_field60 (Af : Option Addr) (nf cf : Nat) (Ab : Option Addr) (nb cb : Nat) (W : World) : (Instr.field 60 (.agg #[.slice Af nf cf, .slice Ab nb cb]) 1).run Try.prog W = .ok (.slice Ab nb cb) W := by
 first
 | rfl
 | kernel_rfl
 | (have hu60 := Try.underlying60; simp [go_sem, Instr.field, hu60])
def EnvC (w W : World) (g6 : Nat) (Ab Ad Aa : Option Addr) (cb cd ca : Nat) (bh : List (List Int)) (y0 : List Bool) (z0 : List Int) : Prop :=
 W.heap[g6]? = some (.cells #[.slice Ab bh.length cb, .slice Ad y0.length cd, .slice Aa z0.length ca, .slice none 0 0] 63 (0, 0)) ∧ w.heap.size ≤ g6 ∧ Below w.heap.size w W ∧ Kd.R (Kd.slice 3 (Kd.int .i64)) 31 W w.heap.size (fun k_ => some k_ ≠ (Value.slice Aa z0.length ca).ownBlock) (.slice Ab bh.length cb) bh ∧ Kd.R Kd.bool 4 W w.heap.size (fun _ => True) (.slice Ad y0.length cd) y0 ∧ Kd.R (Kd.int .i64) 3 W w.heap.size (fun _ => True) (.slice Aa z0.length ca) z0
theorem setAll {w W : World} {g6 : Nat} {Ab Ad Aa : Option Addr} {cb cd ca : Nat} {bh : List (List Int)} {y0 : List Bool} {z0 : List Int} (hG : W.heap[g6]? = some (.cells #[.slice none 0 0, .slice none 0 0, .slice none 0 0, .slice none 0 0] 63 (0, 0))) (hg : w.heap.size ≤ g6) (hb : Below w.heap.size w W)
  (hr : Kd.R (Kd.slice 3 (Kd.int .i64)) 31 W w.heap.size (fun k_ => some k_ ≠ (Value.slice Aa z0.length ca).ownBlock) (.slice Ab bh.length cb) bh) (hd : Kd.R Kd.bool 4 W w.heap.size (fun _ => True) (.slice Ad y0.length cd) y0) (ha : Kd.R (Kd.int .i64) 3 W w.heap.size (fun _ => True) (.slice Aa z0.length ca) z0) :
  EnvC w ((((W.setCell ⟨g6, 0, none⟩ (.slice Ab bh.length cb)).setCell ⟨g6, 1, none⟩ (.slice Ad y0.length cd)).setCell ⟨g6, 2, none⟩ (.slice Aa z0.length ca)).setCell ⟨g6, 3, none⟩ (.slice none 0 0)) g6 Ab Ad Aa cb cd ca bh y0 z0 := by
 have h0 := blk_set hG 0 (.slice Ab bh.length cb)
 have h1 := blk_set h0 1 (.slice Ad y0.length cd)
 have h2 := blk_set h1 2 (.slice Aa z0.length ca)
 have h3 := blk_set h2 3 (.slice none 0 0)
 refine ⟨h3.trans rfl, hg, below_set (below_set (below_set (below_set hb hg) hg) hg) hg, ?_, ?_, ?_⟩
 ·exact Kd.R_set (Kd.R_set (Kd.R_set (Kd.R_set hr hG (by decide) 0 _) h0 (by decide) 1 _) h1 (by decide) 2 _) h2 (by decide) 3 _
 ·exact Kd.R_set (Kd.R_set (Kd.R_set (Kd.R_set hd hG (by decide) 0 _) h0 (by decide) 1 _) h1 (by decide) 2 _) h2 (by decide) 3 _
 ·exact Kd.R_set (Kd.R_set (Kd.R_set (Kd.R_set ha hG (by decide) 0 _) h0 (by decide) 1 _) h1 (by decide) 2 _) h2 (by decide) 3 _
theorem EnvC.env {w W : World} {g6 : Nat} {Ab Ad Aa : Option Addr} {cb cd ca : Nat} {bh : List (List Int)} {y0 : List Bool} {z0 : List Int} (h : EnvC w W g6 Ab Ad Aa cb cd ca bh y0 z0) (hy : 0 < y0.length) (hz : 0 < z0.length) :
  ∃ ga gd, Ad = some ⟨gd, 0, none⟩ ∧ Aa = some ⟨ga, 0, none⟩ ∧ EnvW w.heap.size W.heap.size g6 ga gd bh Ab cb y0.length cd z0.length ca w W y0 z0 [] (.slice none 0 0) := by
 obtain ⟨h1, h2, h3, h4, h5, h6⟩ := h
 obtain ⟨gd, _, ed, _, _, _⟩ := Kd.R_form h5 hy
 obtain ⟨ga, _, ea, _, hl, _⟩ := Kd.R_form h6 hz
 injection ed with ed _ _
 injection ea with ea _ _
 subst ed
 subst ea
 exact ⟨ga, gd, rfl, rfl, h1, Kd.R_mono (Kd.R_bound h4) (fun k hk => ⟨fun e => hk.1 (by rw [e]; rfl), hk.2.2.1⟩), h5, Kd.R_mono (Kd.R_tight rfl h6) (fun k hk => by simpa [Value.ownBlock] using hk), Kd.R_nil _ _ _ _ _, h3, Nat.le_refl _, hl, h2⟩
def CycPost (w : World) (r1 : List Int) (r2 : Bool) (e : Ending) (w' : World) : Prop := ∃ v0_ : Value, e = .returned (.tuple #[v0_, .bool r2]) ∧ Kd.R (Kd.int .i64) 3 w' w.heap.size (fun _ => True) v0_ r1 ∧ Below w.heap.size w w'

set_option maxHeartbeats 16000000 in
set_option maxRecDepth 100000 in
theorem precedence_Cycle.calls_ (k : Nat) (n : Int) (A1 : Option Addr) (c1 : Nat) (l : List S47) (r1 : List Int) (r2 : Bool) (w : World) (hr1 : Kd.C k47 w A1 l.length l) (hc1 : l.length ≤ c1) (h : precedence_Cycle.f k n l = some (r1, r2)) :
  Calls Try.prog 22 #[.int .i64 n, .slice A1 l.length c1] w (CycPost w r1 r2) := by
 have HR1 := aK hr1
 have HC1 := aK hc1
 have hu60 := Try.underlying60
 have hu63 := Try.underlying63
 clear hr1 hc1
 have HB := aK (Below.refl w.heap.size w)
 unfold precedence_Cycle.f at h
 obtain ⟨e, he, H⟩ := oB_ h
 have HE := aK he
 clear h he
 by_cases z : e = 0
 ·rw [if_pos z] at H; subst z
  obtain ⟨⟨bf, bh⟩, hu, H⟩ := oB_ H
  have HU := aK hu
  dsimp only at H
  by_cases hc : 0 ≤ n ∧ n.toNat ≤ 35184372088832
  ·rw [if_pos hc] at H; have HN := aK hc
   obtain ⟨y0, hy0⟩ : ∃ y0 : List Bool, y0 = List.replicate n.toNat false := ⟨_, rfl⟩
   obtain ⟨z0, hz0⟩ : ∃ z0 : List Int, z0 = List.replicate n.toNat 0 := ⟨_, rfl⟩
   rw [← hy0, ← hz0] at H; have HH := aK H; have HY := aK hy0; have HZ := aK hz0; clear H hc hu hy0 hz0
   go_enter Try.func22, Try.ntmps22
   go_wp2_with (go_at_call 20; go_must ((with_reducible refine (precedence_Valid.calls k n _ _ l 0 _ ?s1 ?s2 HE.out).mono ?_); (case s1 => exact HR1.out); (case s2 => exact HC1.out); rintro e w8 ⟨rfl, hb⟩; have n_ := aK (bD_ hb); clear HB hb; have HB := n_; clear n_))
   have hfld := run_field60
   refine start_ (n := 11) (S := fun w' => True) (ds := [10]) #[false, false, false, false, false, false, false, false, false, false, false] (by kernel_rfl) rfl rfl trivial (fun hHeld => ?_)
   generalize w8.drew = wd at HB hHeld ⊢
   refine pure_ (i := 0) (N := some 13) (v := ?_) (a' := ?_) #[true, false, false, false, false, false, false, false, false, false, false] rfl rfl (by kernel_rfl) (fun _ _ _ h => h) (Or.inl ⟨by rfl, ?_⟩) ?_ ?_
   rotate_left; ·intro w'; go_simp; with_reducible rfl
   rotate_left; ·simp only [Act.put, sA_, sZ_, sS_, i64_w, i32_w]; rfl
   refine pure_ (i := 1) (N := some 14) (v := ?_) (a' := ?_) #[true, true, false, false, false, false, false, false, false, false, false] rfl rfl (by kernel_rfl) (fun _ _ _ h => h) (Or.inl ⟨by rfl, ?_⟩) ?_ ?_
   rotate_left; ·intro w'; go_simp; with_reducible rfl
   rotate_left; ·simp only [Act.put, sA_, sZ_, sS_, i64_w, i32_w]; rfl
   refine pure_ (i := 4) (N := some 17) (v := ?_) (a' := ?_) #[true, true, false, false, true, false, false, false, false, false, false] rfl rfl (by kernel_rfl) (fun _ _ _ h => h) (Or.inl ⟨by rfl, ?_⟩) ?_ ?_
   rotate_left; ·intro w'; go_simp; with_reducible rfl
   rotate_left; ·simp only [Act.put, sA_, sZ_, sS_, i64_w, i32_w]; rfl
   refine pure_ (i := 6) (N := some 19) (v := ?_) (a' := ?_) #[true, true, false, false, true, false, true, false, false, false, false] rfl rfl (by kernel_rfl) (fun _ _ _ h => h) (Or.inl ⟨by rfl, ?_⟩) ?_ ?_
   rotate_left; ·intro w'; go_simp; with_reducible rfl
   rotate_left; ·simp only [Act.put, sA_, sZ_, sS_, i64_w, i32_w]; rfl
   refine join_ (σ := Option Addr × Nat × Option Addr × Nat × Option Addr × Nat × Option Addr × Nat × Nat) 1 #[true, true, true, true, true, true, true, true, true, true, false] (fun s_ => [(15, .agg #[.slice s_.1 bf.length s_.2.1, .slice s_.2.2.1 bh.length s_.2.2.2.1]), (18, .slice s_.2.2.2.2.1 y0.length s_.2.2.2.2.2.1), (20, .slice s_.2.2.2.2.2.2.1 z0.length s_.2.2.2.2.2.2.2.1), (6, .pointer (some ⟨s_.2.2.2.2.2.2.2.2, 0, none⟩)), (16, .slice s_.2.2.1 bh.length s_.2.2.2.1), (21, .agg #[.slice s_.2.2.1 bh.length s_.2.2.2.1, .slice s_.2.2.2.2.1 y0.length s_.2.2.2.2.2.1, .slice s_.2.2.2.2.2.2.1 z0.length s_.2.2.2.2.2.2.2.1, .slice none 0 0])]) (fun s_ w' => Aside0 (Below w.heap.size w w') ∧ Aside0 (Kd.R (Kd.slice 3 (Kd.int .i64)) 31 w' w.heap.size (fun k_ => some k_ ≠ (Value.slice s_.2.2.2.2.2.2.1 z0.length s_.2.2.2.2.2.2.2.1).ownBlock) (.slice s_.2.2.1 bh.length s_.2.2.2.1) bh) ∧ Aside0 (Kd.R Kd.bool 4 w' w.heap.size (fun _ => True) (.slice s_.2.2.2.2.1 y0.length s_.2.2.2.2.2.1) y0) ∧ Aside0 (Kd.R (Kd.int .i64) 3 w' w.heap.size (fun _ => True) (.slice s_.2.2.2.2.2.2.1 z0.length s_.2.2.2.2.2.2.2.1) z0) ∧ Aside0 (w'.heap[s_.2.2.2.2.2.2.2.2]? = some (.cells #[.slice none 0 0, .slice none 0 0, .slice none 0 0, .slice none 0 0] 63 (0, 0)) ∧ w.heap.size ≤ s_.2.2.2.2.2.2.2.2)) ?_ ?_
   rotate_left
   ·intro hJ2_5_7_9
    refine join_ (σ := Option Addr × Nat × Option Addr × Nat × Option Addr × Nat × Option Addr × Nat) 2 #[true, true, true, true, true, true, true, true, true, false, false] (fun s_ => [(15, .agg #[.slice s_.1 bf.length s_.2.1, .slice s_.2.2.1 bh.length s_.2.2.2.1]), (18, .slice s_.2.2.2.2.1 y0.length s_.2.2.2.2.2.1), (20, .slice s_.2.2.2.2.2.2.1 z0.length s_.2.2.2.2.2.2.2), (16, .slice s_.2.2.1 bh.length s_.2.2.2.1), (21, .agg #[.slice s_.2.2.1 bh.length s_.2.2.2.1, .slice s_.2.2.2.2.1 y0.length s_.2.2.2.2.2.1, .slice s_.2.2.2.2.2.2.1 z0.length s_.2.2.2.2.2.2.2, .slice none 0 0])]) (fun s_ w' => Aside0 (Below w.heap.size w w') ∧ Aside0 (Kd.R (Kd.slice 3 (Kd.int .i64)) 31 w' w.heap.size (fun k_ => some k_ ≠ (Value.slice s_.2.2.2.2.2.2.1 z0.length s_.2.2.2.2.2.2.2).ownBlock) (.slice s_.2.2.1 bh.length s_.2.2.2.1) bh) ∧ Aside0 (Kd.R Kd.bool 4 w' w.heap.size (fun _ => True) (.slice s_.2.2.2.2.1 y0.length s_.2.2.2.2.2.1) y0) ∧ Aside0 (Kd.R (Kd.int .i64) 3 w' w.heap.size (fun _ => True) (.slice s_.2.2.2.2.2.2.1 z0.length s_.2.2.2.2.2.2.2) z0)) ?_ ?_
    rotate_left
    ·intro hJ2_5_7
     refine join_ (σ := Option Addr × Nat × Option Addr × Nat × Option Addr × Nat × Nat) 3 #[true, true, true, true, true, true, true, false, false, true, false] (fun s_ => [(15, .agg #[.slice s_.1 bf.length s_.2.1, .slice s_.2.2.1 bh.length s_.2.2.2.1]), (18, .slice s_.2.2.2.2.1 y0.length s_.2.2.2.2.2.1), (6, .pointer (some ⟨s_.2.2.2.2.2.2, 0, none⟩)), (16, .slice s_.2.2.1 bh.length s_.2.2.2.1)]) (fun s_ w' => Aside0 (Below w.heap.size w w') ∧ Aside0 (Kd.R (Kd.slice 3 (Kd.int .i64)) 31 w' w.heap.size (fun _ => True) (.slice s_.2.2.1 bh.length s_.2.2.2.1) bh) ∧ Aside0 (Kd.R Kd.bool 4 w' w.heap.size (fun _ => True) (.slice s_.2.2.2.2.1 y0.length s_.2.2.2.2.2.1) y0) ∧ Aside0 (w'.heap[s_.2.2.2.2.2.2]? = some (.cells #[.slice none 0 0, .slice none 0 0, .slice none 0 0, .slice none 0 0] 63 (0, 0)) ∧ w.heap.size ≤ s_.2.2.2.2.2.2)) ?_ ?_
     rotate_left
     ·intro hJ2_5_9
      refine join_ (σ := Option Addr × Nat × Option Addr × Nat × Option Addr × Nat × Nat) 3 #[true, true, true, true, true, false, true, true, false, true, false] (fun s_ => [(15, .agg #[.slice s_.1 bf.length s_.2.1, .slice s_.2.2.1 bh.length s_.2.2.2.1]), (20, .slice s_.2.2.2.2.1 z0.length s_.2.2.2.2.2.1), (6, .pointer (some ⟨s_.2.2.2.2.2.2, 0, none⟩)), (16, .slice s_.2.2.1 bh.length s_.2.2.2.1)]) (fun s_ w' => Aside0 (Below w.heap.size w w') ∧ Aside0 (Kd.R (Kd.slice 3 (Kd.int .i64)) 31 w' w.heap.size (fun k_ => some k_ ≠ (Value.slice s_.2.2.2.2.1 z0.length s_.2.2.2.2.2.1).ownBlock) (.slice s_.2.2.1 bh.length s_.2.2.2.1) bh) ∧ Aside0 (Kd.R (Kd.int .i64) 3 w' w.heap.size (fun _ => True) (.slice s_.2.2.2.2.1 z0.length s_.2.2.2.2.2.1) z0) ∧ Aside0 (w'.heap[s_.2.2.2.2.2.2]? = some (.cells #[.slice none 0 0, .slice none 0 0, .slice none 0 0, .slice none 0 0] 63 (0, 0)) ∧ w.heap.size ≤ s_.2.2.2.2.2.2)) ?_ ?_
      rotate_left
      ·intro hJ2_7_9
       refine join_ (σ := Option Addr × Nat × Option Addr × Nat × Nat) 4 #[true, true, false, false, true, true, true, true, false, true, false] (fun s_ => [(18, .slice s_.1 y0.length s_.2.1), (20, .slice s_.2.2.1 z0.length s_.2.2.2.1), (6, .pointer (some ⟨s_.2.2.2.2, 0, none⟩))]) (fun s_ w' => Aside0 (Below w.heap.size w w') ∧ Aside0 (Kd.R Kd.bool 4 w' w.heap.size (fun _ => True) (.slice s_.1 y0.length s_.2.1) y0) ∧ Aside0 (Kd.R (Kd.int .i64) 3 w' w.heap.size (fun _ => True) (.slice s_.2.2.1 z0.length s_.2.2.2.1) z0) ∧ Aside0 (w'.heap[s_.2.2.2.2]? = some (.cells #[.slice none 0 0, .slice none 0 0, .slice none 0 0, .slice none 0 0] 63 (0, 0)) ∧ w.heap.size ≤ s_.2.2.2.2)) ?_ ?_
       rotate_left
       ·intro hJ5_7_9
        refine join_ (σ := Option Addr × Nat × Option Addr × Nat × Option Addr × Nat) 4 #[true, true, true, true, true, true, true, false, false, false, false] (fun s_ => [(15, .agg #[.slice s_.1 bf.length s_.2.1, .slice s_.2.2.1 bh.length s_.2.2.2.1]), (18, .slice s_.2.2.2.2.1 y0.length s_.2.2.2.2.2), (16, .slice s_.2.2.1 bh.length s_.2.2.2.1)]) (fun s_ w' => Aside0 (Below w.heap.size w w') ∧ Aside0 (Kd.R (Kd.slice 3 (Kd.int .i64)) 31 w' w.heap.size (fun _ => True) (.slice s_.2.2.1 bh.length s_.2.2.2.1) bh) ∧ Aside0 (Kd.R Kd.bool 4 w' w.heap.size (fun _ => True) (.slice s_.2.2.2.2.1 y0.length s_.2.2.2.2.2) y0)) ?_ ?_
        rotate_left
        ·intro hJ2_5
         refine join_ (σ := Option Addr × Nat × Option Addr × Nat × Option Addr × Nat) 4 #[true, true, true, true, true, false, true, true, false, false, false] (fun s_ => [(15, .agg #[.slice s_.1 bf.length s_.2.1, .slice s_.2.2.1 bh.length s_.2.2.2.1]), (20, .slice s_.2.2.2.2.1 z0.length s_.2.2.2.2.2), (16, .slice s_.2.2.1 bh.length s_.2.2.2.1)]) (fun s_ w' => Aside0 (Below w.heap.size w w') ∧ Aside0 (Kd.R (Kd.slice 3 (Kd.int .i64)) 31 w' w.heap.size (fun k_ => some k_ ≠ (Value.slice s_.2.2.2.2.1 z0.length s_.2.2.2.2.2).ownBlock) (.slice s_.2.2.1 bh.length s_.2.2.2.1) bh) ∧ Aside0 (Kd.R (Kd.int .i64) 3 w' w.heap.size (fun _ => True) (.slice s_.2.2.2.2.1 z0.length s_.2.2.2.2.2) z0)) ?_ ?_
         rotate_left
         ·intro hJ2_7
          refine join_ (σ := Option Addr × Nat × Option Addr × Nat × Nat) 4 #[true, true, true, true, true, false, true, false, false, true, false] (fun s_ => [(15, .agg #[.slice s_.1 bf.length s_.2.1, .slice s_.2.2.1 bh.length s_.2.2.2.1]), (6, .pointer (some ⟨s_.2.2.2.2, 0, none⟩)), (16, .slice s_.2.2.1 bh.length s_.2.2.2.1)]) (fun s_ w' => Aside0 (Below w.heap.size w w') ∧ Aside0 (Kd.R (Kd.slice 3 (Kd.int .i64)) 31 w' w.heap.size (fun _ => True) (.slice s_.2.2.1 bh.length s_.2.2.2.1) bh) ∧ Aside0 (w'.heap[s_.2.2.2.2]? = some (.cells #[.slice none 0 0, .slice none 0 0, .slice none 0 0, .slice none 0 0] 63 (0, 0)) ∧ w.heap.size ≤ s_.2.2.2.2)) ?_ ?_
          rotate_left
          ·intro hJ2_9
           refine join_ (σ := Option Addr × Nat × Option Addr × Nat) 5 #[true, true, false, false, true, true, true, true, false, false, false] (fun s_ => [(18, .slice s_.1 y0.length s_.2.1), (20, .slice s_.2.2.1 z0.length s_.2.2.2)]) (fun s_ w' => Aside0 (Below w.heap.size w w') ∧ Aside0 (Kd.R Kd.bool 4 w' w.heap.size (fun _ => True) (.slice s_.1 y0.length s_.2.1) y0) ∧ Aside0 (Kd.R (Kd.int .i64) 3 w' w.heap.size (fun _ => True) (.slice s_.2.2.1 z0.length s_.2.2.2) z0)) ?_ ?_
           rotate_left
           ·intro hJ5_7
            refine join_ (σ := Option Addr × Nat × Nat) 5 #[true, true, false, false, true, true, true, false, false, true, false] (fun s_ => [(18, .slice s_.1 y0.length s_.2.1), (6, .pointer (some ⟨s_.2.2, 0, none⟩))]) (fun s_ w' => Aside0 (Below w.heap.size w w') ∧ Aside0 (Kd.R Kd.bool 4 w' w.heap.size (fun _ => True) (.slice s_.1 y0.length s_.2.1) y0) ∧ Aside0 (w'.heap[s_.2.2]? = some (.cells #[.slice none 0 0, .slice none 0 0, .slice none 0 0, .slice none 0 0] 63 (0, 0)) ∧ w.heap.size ≤ s_.2.2)) ?_ ?_
            rotate_left
            ·intro hJ5_9
             refine join_ (σ := Option Addr × Nat × Nat) 5 #[true, true, false, false, true, false, true, true, false, true, false] (fun s_ => [(20, .slice s_.1 z0.length s_.2.1), (6, .pointer (some ⟨s_.2.2, 0, none⟩))]) (fun s_ w' => Aside0 (Below w.heap.size w w') ∧ Aside0 (Kd.R (Kd.int .i64) 3 w' w.heap.size (fun _ => True) (.slice s_.1 z0.length s_.2.1) z0) ∧ Aside0 (w'.heap[s_.2.2]? = some (.cells #[.slice none 0 0, .slice none 0 0, .slice none 0 0, .slice none 0 0] 63 (0, 0)) ∧ w.heap.size ≤ s_.2.2)) ?_ ?_
             rotate_left
             ·intro hJ7_9
              refine join_ (σ := Option Addr × Nat × Option Addr × Nat) 5 #[true, true, true, true, true, false, true, false, false, false, false] (fun s_ => [(15, .agg #[.slice s_.1 bf.length s_.2.1, .slice s_.2.2.1 bh.length s_.2.2.2]), (16, .slice s_.2.2.1 bh.length s_.2.2.2)]) (fun s_ w' => Aside0 (Below w.heap.size w w') ∧ Aside0 (Kd.R (Kd.slice 3 (Kd.int .i64)) 31 w' w.heap.size (fun _ => True) (.slice s_.2.2.1 bh.length s_.2.2.2) bh)) ?_ ?_
              rotate_left
              ·intro hJ2
               refine join_ (σ := Option Addr × Nat) 6 #[true, true, false, false, true, true, true, false, false, false, false] (fun s_ => [(18, .slice s_.1 y0.length s_.2)]) (fun s_ w' => Aside0 (Below w.heap.size w w') ∧ Aside0 (Kd.R Kd.bool 4 w' w.heap.size (fun _ => True) (.slice s_.1 y0.length s_.2) y0)) ?_ ?_
               rotate_left
               ·intro hJ5
                refine join_ (σ := Option Addr × Nat) 6 #[true, true, false, false, true, false, true, true, false, false, false] (fun s_ => [(20, .slice s_.1 z0.length s_.2)]) (fun s_ w' => Aside0 (Below w.heap.size w w') ∧ Aside0 (Kd.R (Kd.int .i64) 3 w' w.heap.size (fun _ => True) (.slice s_.1 z0.length s_.2) z0)) ?_ ?_
                rotate_left
                ·intro hJ7
                 refine join_ (σ := Nat) 6 #[true, true, false, false, true, false, true, false, false, true, false] (fun s_ => [(6, .pointer (some ⟨s_, 0, none⟩))]) (fun s_ w' => Aside0 (Below w.heap.size w w') ∧ Aside0 (w'.heap[s_]? = some (.cells #[.slice none 0 0, .slice none 0 0, .slice none 0 0, .slice none 0 0] 63 (0, 0)) ∧ w.heap.size ≤ s_)) ?_ ?_
                 rotate_left
                 ·intro hJ9
                  refine four_ (i := 2) (j := 5) (k := 7) (m := 9) (Ni := some 15) (Nj := some 18) (Nk := some 20) (Nm := some 6) #[true, true, true, false, true, false, true, false, false, false, false] #[true, true, false, false, true, true, true, false, false, false, false] #[true, true, false, false, true, false, true, true, false, false, false] #[true, true, false, false, true, false, true, false, false, true, false] rfl rfl rfl rfl rfl rfl rfl rfl (by kernel_rfl) (by decide) (by decide) (by decide) (by decide) (fun K hK => ?_) (fun K hK => ?_) (fun K hK => ?_) (fun K hK => ?_)
                  ·skip
                   refine goes_ Try.func42 (by kernel_rfl) rfl #[.int .i64 n, .slice A1 l.length c1] (by rfl) rfl rfl (by simp only [List.map_toArray, List.map_cons, List.map_nil]; rfl) ?_
                   with_reducible refine (precedence_read.calls k n _ _ l bf bh _ ?s1 ?s2 HU.out).mono ?_
                   (case s1 => exact Kd.C_below HR1.out HB.out)
                   (case s2 => exact HC1.out)
                   rintro e wM ⟨v1, v2, rfl, h1, h2, hb⟩
                   refine ⟨_, rfl, ?_⟩
                   obtain ⟨Af, cf, e1_⟩ := Kd.S_slice h1
                   obtain ⟨Ab, cb, e2_⟩ := Kd.S_slice h2
                   subst e1_; subst e2_
                   have nN := aK (Kd.R_mono (Kd.R_lower (Kd.S_R h2) (bZ_ HB.out)) (fun _ _ => trivial) : Kd.R (Kd.slice 3 (Kd.int .i64)) 31 wM w.heap.size (fun _ => True) (.slice Ab bh.length cb) bh)
                   have nB := aK (bT_ HB.out hb)
                   clear HB; have HB := nB; have HR := nN; clear nN nB; clear h1 h2 hb
                   refine hK.out _ _ trivial (fun hHeld => ?_)
                   clear hK K
                   refine norm_ (a' := ?_) ?_ ?_
                   rotate_left
                   ·show Act.put _ (some 15) _ = _
                    simp only [Act.put, sA_, sZ_, sS_, i64_w, i32_w]; rfl
                   refine pure_ (i := 3) (N := some 16) (v := ?_) (a' := ?_) #[true, true, true, true, true, false, true, false, false, false, false] rfl rfl (by kernel_rfl) (fun _ _ _ h => h) (Or.inl ⟨by rfl, ?_⟩) ?_ ?_
                   rotate_left; ·intro w'; go_simp; with_reducible rfl
                   rotate_left; ·simp only [Act.put, sA_, sZ_, sS_, i64_w, i32_w]; rfl
                   exact norm_ (by first | (simp only [putAll, Act.put, sA_, sZ_, sS_]; done) | (simp only [putAll, Act.put, sA_, sZ_, sS_]; rfl)) (hJ2 (Af, cf, Ab, cb) _ ⟨HB, HR⟩)
                  ·skip
                   refine Kd.R_make_step Kd.bool _ 4 (by rfl) (N := 18) rfl 52 _ _ rfl n rfl rfl Try.underlying52 (.bool false) 1 info4 rfl (by decide) (by omega) false (ok := fun _ => True) (okp := fun _ => True) rfl (fun _ hk => hk) trivial HN.out.1 (by have := HN.out.2; omega) (Below.refl _ _) (Nat.le_refl _) ?_
                   intro vq wM ho hb hg_ hnew_; clear hg_ hnew_; rw [← HY.out] at ho
                   obtain ⟨Ad, cd, eq_⟩ := Kd.R_slice ho
                   subst eq_
                   have nN := aK (Kd.R_lower ho (bZ_ HB.out))
                   have nB := aK (bT_ HB.out hb)
                   clear HB; have HB := nB; have HD := nN; clear nN nB; clear ho hb
                   refine hK.out _ _ trivial (fun hHeld => ?_)
                   clear hK K
                   refine norm_ (a' := ?_) ?_ ?_
                   rotate_left
                   ·show Act.put _ (some 18) _ = _
                    simp only [Act.put, sA_, sZ_, sS_, i64_w, i32_w]; rfl
                   exact norm_ (by first | (simp only [putAll, Act.put, sA_, sZ_, sS_]; done) | (simp only [putAll, Act.put, sA_, sZ_, sS_]; rfl)) (hJ5 (Ad, cd) _ ⟨HB, HD⟩)
                  ·skip
                   refine Kd.R_make_step (Kd.int .i64) _ 3 (by rfl) (N := 20) rfl 31 _ _ rfl n rfl rfl Try.underlying31 (.int .i64 0) 8 info3 rfl (by decide) (by omega) 0 (ok := fun _ => True) (okp := fun _ => True) rfl (fun _ hk => hk) trivial HN.out.1 (by have := HN.out.2; omega) (Below.refl _ _) (Nat.le_refl _) ?_
                   intro vq wM ho hb hg_ hnew_; clear hg_ hnew_; rw [← HZ.out] at ho
                   obtain ⟨Aa, ca, eq_⟩ := Kd.R_slice ho
                   subst eq_
                   have nN := aK (Kd.R_lower ho (bZ_ HB.out))
                   have nB := aK (bT_ HB.out hb)
                   clear HB; have HB := nB; have HA := nN; clear nN nB; clear ho hb
                   refine hK.out _ _ trivial (fun hHeld => ?_)
                   clear hK K
                   refine norm_ (a' := ?_) ?_ ?_
                   rotate_left
                   ·show Act.put _ (some 20) _ = _
                    simp only [Act.put, sA_, sZ_, sS_, i64_w, i32_w]; rfl
                   exact norm_ (by first | (simp only [putAll, Act.put, sA_, sZ_, sS_]; done) | (simp only [putAll, Act.put, sA_, sZ_, sS_]; rfl)) (hJ7 (Aa, ca) _ ⟨HB, HA⟩)
                  ·skip
                   refine box_step (by rfl) (N := 6) rfl (cs := #[.slice none 0 0, .slice none 0 0, .slice none 0 0, .slice none 0 0]) (t := 63) ?hr ?_
                   (case hr => first | (go_simp; done) | (go_simp; rfl))
                   intro g6 hg wM hbox hb
                   have nN := aK (And.intro hbox (by rw [hg]; exact bZ_ HB.out : w.heap.size ≤ g6))
                   have nB := aK (bT_ HB.out hb)
                   clear HB; have HB := nB; have HG := nN; clear nN nB; clear hg hbox hb
                   refine hK.out _ _ trivial (fun hHeld => ?_)
                   clear hK K
                   refine norm_ (a' := ?_) ?_ ?_
                   rotate_left
                   ·show Act.put _ (some 6) _ = _
                    simp only [Act.put, sA_, sZ_, sS_, i64_w, i32_w]; rfl
                   exact norm_ (by first | (simp only [putAll, Act.put, sA_, sZ_, sS_]; done) | (simp only [putAll, Act.put, sA_, sZ_, sS_]; rfl)) (hJ9 g6 _ ⟨HB, HG⟩)
                 ·skip
                  rintro g6 wN ⟨HB, HG⟩; have hHeld := trivial
                  refine norm_ (a' := ?_) ?_ ?_
                  rotate_left; ·simp only [putAll, Act.put, sA_, sZ_, sS_]; rfl
                  refine three_ (i := 2) (j := 5) (k := 7) (Ni := some 15) (Nj := some 18) (Nk := some 20) #[true, true, true, false, true, false, true, false, false, true, false] #[true, true, false, false, true, true, true, false, false, true, false] #[true, true, false, false, true, false, true, true, false, true, false] rfl rfl rfl rfl rfl rfl (by kernel_rfl) (by decide) (by decide) (by decide) (fun K hK => ?_) (fun K hK => ?_) (fun K hK => ?_)
                  ·skip
                   refine goes_ Try.func42 (by kernel_rfl) rfl #[.int .i64 n, .slice A1 l.length c1] (by rfl) rfl rfl (by simp only [List.map_toArray, List.map_cons, List.map_nil]; rfl) ?_
                   with_reducible refine (precedence_read.calls k n _ _ l bf bh _ ?s1 ?s2 HU.out).mono ?_
                   (case s1 => exact Kd.C_below HR1.out HB.out)
                   (case s2 => exact HC1.out)
                   rintro e wM ⟨v1, v2, rfl, h1, h2, hb⟩
                   refine ⟨_, rfl, ?_⟩
                   obtain ⟨Af, cf, e1_⟩ := Kd.S_slice h1
                   obtain ⟨Ab, cb, e2_⟩ := Kd.S_slice h2
                   subst e1_; subst e2_
                   have nN := aK (Kd.R_mono (Kd.R_lower (Kd.S_R h2) (bZ_ HB.out)) (fun _ _ => trivial) : Kd.R (Kd.slice 3 (Kd.int .i64)) 31 wM w.heap.size (fun _ => True) (.slice Ab bh.length cb) bh)
                   have nG := aK (And.intro ((hb.block _ (blk_lt HG.out.1)).trans HG.out.1) HG.out.2)
                   have nB := aK (bT_ HB.out hb)
                   clear HB HG; have HG := nG; have HB := nB; have HR := nN; clear nN nG nB; clear h1 h2 hb
                   refine hK.out _ _ trivial (fun hHeld => ?_)
                   clear hK K
                   refine norm_ (a' := ?_) ?_ ?_
                   rotate_left
                   ·show Act.put _ (some 15) _ = _
                    simp only [Act.put, sA_, sZ_, sS_, i64_w, i32_w]; rfl
                   refine pure_ (i := 3) (N := some 16) (v := ?_) (a' := ?_) #[true, true, true, true, true, false, true, false, false, true, false] rfl rfl (by kernel_rfl) (fun _ _ _ h => h) (Or.inl ⟨by rfl, ?_⟩) ?_ ?_
                   rotate_left; ·intro w'; go_simp; with_reducible rfl
                   rotate_left; ·simp only [Act.put, sA_, sZ_, sS_, i64_w, i32_w]; rfl
                   exact norm_ (by first | (simp only [putAll, Act.put, sA_, sZ_, sS_]; done) | (simp only [putAll, Act.put, sA_, sZ_, sS_]; rfl)) (hJ2_9 (Af, cf, Ab, cb, g6) _ ⟨HB, HR, HG⟩)
                  ·skip
                   refine Kd.R_make_step Kd.bool _ 4 (by rfl) (N := 18) rfl 52 _ _ rfl n rfl rfl Try.underlying52 (.bool false) 1 info4 rfl (by decide) (by omega) false (ok := fun _ => True) (okp := fun _ => True) rfl (fun _ hk => hk) trivial HN.out.1 (by have := HN.out.2; omega) (Below.refl _ _) (Nat.le_refl _) ?_
                   intro vq wM ho hb hg_ hnew_; clear hg_ hnew_; rw [← HY.out] at ho
                   obtain ⟨Ad, cd, eq_⟩ := Kd.R_slice ho
                   subst eq_
                   have nN := aK (Kd.R_lower ho (bZ_ HB.out))
                   have nG := aK (And.intro ((hb.block _ (blk_lt HG.out.1)).trans HG.out.1) HG.out.2)
                   have nB := aK (bT_ HB.out hb)
                   clear HB HG; have HG := nG; have HB := nB; have HD := nN; clear nN nG nB; clear ho hb
                   refine hK.out _ _ trivial (fun hHeld => ?_)
                   clear hK K
                   refine norm_ (a' := ?_) ?_ ?_
                   rotate_left
                   ·show Act.put _ (some 18) _ = _
                    simp only [Act.put, sA_, sZ_, sS_, i64_w, i32_w]; rfl
                   exact norm_ (by first | (simp only [putAll, Act.put, sA_, sZ_, sS_]; done) | (simp only [putAll, Act.put, sA_, sZ_, sS_]; rfl)) (hJ5_9 (Ad, cd, g6) _ ⟨HB, HD, HG⟩)
                  ·skip
                   refine Kd.R_make_step (Kd.int .i64) _ 3 (by rfl) (N := 20) rfl 31 _ _ rfl n rfl rfl Try.underlying31 (.int .i64 0) 8 info3 rfl (by decide) (by omega) 0 (ok := fun _ => True) (okp := fun _ => True) rfl (fun _ hk => hk) trivial HN.out.1 (by have := HN.out.2; omega) (Below.refl _ _) (Nat.le_refl _) ?_
                   intro vq wM ho hb hg_ hnew_; clear hg_ hnew_; rw [← HZ.out] at ho
                   obtain ⟨Aa, ca, eq_⟩ := Kd.R_slice ho
                   subst eq_
                   have nN := aK (Kd.R_lower ho (bZ_ HB.out))
                   have nG := aK (And.intro ((hb.block _ (blk_lt HG.out.1)).trans HG.out.1) HG.out.2)
                   have nB := aK (bT_ HB.out hb)
                   clear HB HG; have HG := nG; have HB := nB; have HA := nN; clear nN nG nB; clear ho hb
                   refine hK.out _ _ trivial (fun hHeld => ?_)
                   clear hK K
                   refine norm_ (a' := ?_) ?_ ?_
                   rotate_left
                   ·show Act.put _ (some 20) _ = _
                    simp only [Act.put, sA_, sZ_, sS_, i64_w, i32_w]; rfl
                   exact norm_ (by first | (simp only [putAll, Act.put, sA_, sZ_, sS_]; done) | (simp only [putAll, Act.put, sA_, sZ_, sS_]; rfl)) (hJ7_9 (Aa, ca, g6) _ ⟨HB, HA, HG⟩)
                ·skip
                 rintro ⟨Aa, ca⟩ wN ⟨HB, HA⟩; have hHeld := trivial
                 refine norm_ (a' := ?_) ?_ ?_
                 rotate_left; ·simp only [putAll, Act.put, sA_, sZ_, sS_]; rfl
                 refine three_ (i := 2) (j := 5) (k := 9) (Ni := some 15) (Nj := some 18) (Nk := some 6) #[true, true, true, false, true, false, true, true, false, false, false] #[true, true, false, false, true, true, true, true, false, false, false] #[true, true, false, false, true, false, true, true, false, true, false] rfl rfl rfl rfl rfl rfl (by kernel_rfl) (by decide) (by decide) (by decide) (fun K hK => ?_) (fun K hK => ?_) (fun K hK => ?_)
                 ·skip
                  refine goes_ Try.func42 (by kernel_rfl) rfl #[.int .i64 n, .slice A1 l.length c1] (by rfl) rfl rfl (by simp only [List.map_toArray, List.map_cons, List.map_nil]; rfl) ?_
                  with_reducible refine (precedence_read.calls k n _ _ l bf bh _ ?s1 ?s2 HU.out).mono ?_
                  (case s1 => exact Kd.C_below HR1.out HB.out)
                  (case s2 => exact HC1.out)
                  rintro e wM ⟨v1, v2, rfl, h1, h2, hb⟩
                  refine ⟨_, rfl, ?_⟩
                  obtain ⟨Af, cf, e1_⟩ := Kd.S_slice h1
                  obtain ⟨Ab, cb, e2_⟩ := Kd.S_slice h2
                  subst e1_; subst e2_
                  have nN := aK (Kd.R_mono (Kd.R_lower (Kd.R_newR (Kd.S_R h2) HA.out) (bZ_ HB.out)) (fun _ hk => hk.2) : Kd.R (Kd.slice 3 (Kd.int .i64)) 31 wM w.heap.size (fun k_ => some k_ ≠ (Value.slice Aa z0.length ca).ownBlock) (.slice Ab bh.length cb) bh)
                  have nA := aK (Kd.R_below HA.out hb)
                  have nB := aK (bT_ HB.out hb)
                  clear HB HA; have HA := nA; have HB := nB; have HR := nN; clear nN nA nB; clear h1 h2 hb
                  refine hK.out _ _ trivial (fun hHeld => ?_)
                  clear hK K
                  refine norm_ (a' := ?_) ?_ ?_
                  rotate_left
                  ·show Act.put _ (some 15) _ = _
                   simp only [Act.put, sA_, sZ_, sS_, i64_w, i32_w]; rfl
                  refine pure_ (i := 3) (N := some 16) (v := ?_) (a' := ?_) #[true, true, true, true, true, false, true, true, false, false, false] rfl rfl (by kernel_rfl) (fun _ _ _ h => h) (Or.inl ⟨by rfl, ?_⟩) ?_ ?_
                  rotate_left; ·intro w'; go_simp; with_reducible rfl
                  rotate_left; ·simp only [Act.put, sA_, sZ_, sS_, i64_w, i32_w]; rfl
                  exact norm_ (by first | (simp only [putAll, Act.put, sA_, sZ_, sS_]; done) | (simp only [putAll, Act.put, sA_, sZ_, sS_]; rfl)) (hJ2_7 (Af, cf, Ab, cb, Aa, ca) _ ⟨HB, HR, HA⟩)
                 ·skip
                  refine Kd.R_make_step Kd.bool _ 4 (by rfl) (N := 18) rfl 52 _ _ rfl n rfl rfl Try.underlying52 (.bool false) 1 info4 rfl (by decide) (by omega) false (ok := fun _ => True) (okp := fun _ => True) rfl (fun _ hk => hk) trivial HN.out.1 (by have := HN.out.2; omega) (Below.refl _ _) (Nat.le_refl _) ?_
                  intro vq wM ho hb hg_ hnew_; clear hg_ hnew_; rw [← HY.out] at ho
                  obtain ⟨Ad, cd, eq_⟩ := Kd.R_slice ho
                  subst eq_
                  have nN := aK (Kd.R_lower ho (bZ_ HB.out))
                  have nA := aK (Kd.R_below HA.out hb)
                  have nB := aK (bT_ HB.out hb)
                  clear HB HA; have HA := nA; have HB := nB; have HD := nN; clear nN nA nB; clear ho hb
                  refine hK.out _ _ trivial (fun hHeld => ?_)
                  clear hK K
                  refine norm_ (a' := ?_) ?_ ?_
                  rotate_left
                  ·show Act.put _ (some 18) _ = _
                   simp only [Act.put, sA_, sZ_, sS_, i64_w, i32_w]; rfl
                  exact norm_ (by first | (simp only [putAll, Act.put, sA_, sZ_, sS_]; done) | (simp only [putAll, Act.put, sA_, sZ_, sS_]; rfl)) (hJ5_7 (Ad, cd, Aa, ca) _ ⟨HB, HD, HA⟩)
                 ·skip
                  refine box_step (by rfl) (N := 6) rfl (cs := #[.slice none 0 0, .slice none 0 0, .slice none 0 0, .slice none 0 0]) (t := 63) ?hr ?_
                  (case hr => first | (go_simp; done) | (go_simp; rfl))
                  intro g6 hg wM hbox hb
                  have nN := aK (And.intro hbox (by rw [hg]; exact bZ_ HB.out : w.heap.size ≤ g6))
                  have nA := aK (Kd.R_below HA.out hb)
                  have nB := aK (bT_ HB.out hb)
                  clear HB HA; have HA := nA; have HB := nB; have HG := nN; clear nN nA nB; clear hg hbox hb
                  refine hK.out _ _ trivial (fun hHeld => ?_)
                  clear hK K
                  refine norm_ (a' := ?_) ?_ ?_
                  rotate_left
                  ·show Act.put _ (some 6) _ = _
                   simp only [Act.put, sA_, sZ_, sS_, i64_w, i32_w]; rfl
                  exact norm_ (by first | (simp only [putAll, Act.put, sA_, sZ_, sS_]; done) | (simp only [putAll, Act.put, sA_, sZ_, sS_]; rfl)) (hJ7_9 (Aa, ca, g6) _ ⟨HB, HA, HG⟩)
               ·skip
                rintro ⟨Ad, cd⟩ wN ⟨HB, HD⟩; have hHeld := trivial
                refine norm_ (a' := ?_) ?_ ?_
                rotate_left; ·simp only [putAll, Act.put, sA_, sZ_, sS_]; rfl
                refine three_ (i := 2) (j := 7) (k := 9) (Ni := some 15) (Nj := some 20) (Nk := some 6) #[true, true, true, false, true, true, true, false, false, false, false] #[true, true, false, false, true, true, true, true, false, false, false] #[true, true, false, false, true, true, true, false, false, true, false] rfl rfl rfl rfl rfl rfl (by kernel_rfl) (by decide) (by decide) (by decide) (fun K hK => ?_) (fun K hK => ?_) (fun K hK => ?_)
                ·skip
                 refine goes_ Try.func42 (by kernel_rfl) rfl #[.int .i64 n, .slice A1 l.length c1] (by rfl) rfl rfl (by simp only [List.map_toArray, List.map_cons, List.map_nil]; rfl) ?_
                 with_reducible refine (precedence_read.calls k n _ _ l bf bh _ ?s1 ?s2 HU.out).mono ?_
                 (case s1 => exact Kd.C_below HR1.out HB.out)
                 (case s2 => exact HC1.out)
                 rintro e wM ⟨v1, v2, rfl, h1, h2, hb⟩
                 refine ⟨_, rfl, ?_⟩
                 obtain ⟨Af, cf, e1_⟩ := Kd.S_slice h1
                 obtain ⟨Ab, cb, e2_⟩ := Kd.S_slice h2
                 subst e1_; subst e2_
                 have nN := aK (Kd.R_mono (Kd.R_lower (Kd.S_R h2) (bZ_ HB.out)) (fun _ _ => trivial) : Kd.R (Kd.slice 3 (Kd.int .i64)) 31 wM w.heap.size (fun _ => True) (.slice Ab bh.length cb) bh)
                 have nD := aK (Kd.R_below HD.out hb)
                 have nB := aK (bT_ HB.out hb)
                 clear HB HD; have HD := nD; have HB := nB; have HR := nN; clear nN nD nB; clear h1 h2 hb
                 refine hK.out _ _ trivial (fun hHeld => ?_)
                 clear hK K
                 refine norm_ (a' := ?_) ?_ ?_
                 rotate_left
                 ·show Act.put _ (some 15) _ = _
                  simp only [Act.put, sA_, sZ_, sS_, i64_w, i32_w]; rfl
                 refine pure_ (i := 3) (N := some 16) (v := ?_) (a' := ?_) #[true, true, true, true, true, true, true, false, false, false, false] rfl rfl (by kernel_rfl) (fun _ _ _ h => h) (Or.inl ⟨by rfl, ?_⟩) ?_ ?_
                 rotate_left; ·intro w'; go_simp; with_reducible rfl
                 rotate_left; ·simp only [Act.put, sA_, sZ_, sS_, i64_w, i32_w]; rfl
                 exact norm_ (by first | (simp only [putAll, Act.put, sA_, sZ_, sS_]; done) | (simp only [putAll, Act.put, sA_, sZ_, sS_]; rfl)) (hJ2_5 (Af, cf, Ab, cb, Ad, cd) _ ⟨HB, HR, HD⟩)
                ·skip
                 refine Kd.R_make_step (Kd.int .i64) _ 3 (by rfl) (N := 20) rfl 31 _ _ rfl n rfl rfl Try.underlying31 (.int .i64 0) 8 info3 rfl (by decide) (by omega) 0 (ok := fun _ => True) (okp := fun _ => True) rfl (fun _ hk => hk) trivial HN.out.1 (by have := HN.out.2; omega) (Below.refl _ _) (Nat.le_refl _) ?_
                 intro vq wM ho hb hg_ hnew_; clear hg_ hnew_; rw [← HZ.out] at ho
                 obtain ⟨Aa, ca, eq_⟩ := Kd.R_slice ho
                 subst eq_
                 have nN := aK (Kd.R_lower ho (bZ_ HB.out))
                 have nD := aK (Kd.R_below HD.out hb)
                 have nB := aK (bT_ HB.out hb)
                 clear HB HD; have HD := nD; have HB := nB; have HA := nN; clear nN nD nB; clear ho hb
                 refine hK.out _ _ trivial (fun hHeld => ?_)
                 clear hK K
                 refine norm_ (a' := ?_) ?_ ?_
                 rotate_left
                 ·show Act.put _ (some 20) _ = _
                  simp only [Act.put, sA_, sZ_, sS_, i64_w, i32_w]; rfl
                 exact norm_ (by first | (simp only [putAll, Act.put, sA_, sZ_, sS_]; done) | (simp only [putAll, Act.put, sA_, sZ_, sS_]; rfl)) (hJ5_7 (Ad, cd, Aa, ca) _ ⟨HB, HD, HA⟩)
                ·skip
                 refine box_step (by rfl) (N := 6) rfl (cs := #[.slice none 0 0, .slice none 0 0, .slice none 0 0, .slice none 0 0]) (t := 63) ?hr ?_
                 (case hr => first | (go_simp; done) | (go_simp; rfl))
                 intro g6 hg wM hbox hb
                 have nN := aK (And.intro hbox (by rw [hg]; exact bZ_ HB.out : w.heap.size ≤ g6))
                 have nD := aK (Kd.R_below HD.out hb)
                 have nB := aK (bT_ HB.out hb)
                 clear HB HD; have HD := nD; have HB := nB; have HG := nN; clear nN nD nB; clear hg hbox hb
                 refine hK.out _ _ trivial (fun hHeld => ?_)
                 clear hK K
                 refine norm_ (a' := ?_) ?_ ?_
                 rotate_left
                 ·show Act.put _ (some 6) _ = _
                  simp only [Act.put, sA_, sZ_, sS_, i64_w, i32_w]; rfl
                 exact norm_ (by first | (simp only [putAll, Act.put, sA_, sZ_, sS_]; done) | (simp only [putAll, Act.put, sA_, sZ_, sS_]; rfl)) (hJ5_9 (Ad, cd, g6) _ ⟨HB, HD, HG⟩)
              ·skip
               rintro ⟨Af, cf, Ab, cb⟩ wN ⟨HB, HR⟩; have hHeld := trivial
               refine norm_ (a' := ?_) ?_ ?_
               rotate_left; ·simp only [putAll, Act.put, sA_, sZ_, sS_]; rfl
               refine three_ (i := 5) (j := 7) (k := 9) (Ni := some 18) (Nj := some 20) (Nk := some 6) #[true, true, true, true, true, true, true, false, false, false, false] #[true, true, true, true, true, false, true, true, false, false, false] #[true, true, true, true, true, false, true, false, false, true, false] rfl rfl rfl rfl rfl rfl (by kernel_rfl) (by decide) (by decide) (by decide) (fun K hK => ?_) (fun K hK => ?_) (fun K hK => ?_)
               ·skip
                refine Kd.R_make_step Kd.bool _ 4 (by rfl) (N := 18) rfl 52 _ _ rfl n rfl rfl Try.underlying52 (.bool false) 1 info4 rfl (by decide) (by omega) false (ok := fun _ => True) (okp := fun _ => True) rfl (fun _ hk => hk) trivial HN.out.1 (by have := HN.out.2; omega) (Below.refl _ _) (Nat.le_refl _) ?_
                intro vq wM ho hb hg_ hnew_; clear hg_ hnew_; rw [← HY.out] at ho
                obtain ⟨Ad, cd, eq_⟩ := Kd.R_slice ho
                subst eq_
                have nN := aK (Kd.R_lower ho (bZ_ HB.out))
                have nR := aK (Kd.R_below HR.out hb)
                have nB := aK (bT_ HB.out hb)
                clear HB HR; have HR := nR; have HB := nB; have HD := nN; clear nN nR nB; clear ho hb
                refine hK.out _ _ trivial (fun hHeld => ?_)
                clear hK K
                refine norm_ (a' := ?_) ?_ ?_
                rotate_left
                ·show Act.put _ (some 18) _ = _
                 simp only [Act.put, sA_, sZ_, sS_, i64_w, i32_w]; rfl
                exact norm_ (by first | (simp only [putAll, Act.put, sA_, sZ_, sS_]; done) | (simp only [putAll, Act.put, sA_, sZ_, sS_]; rfl)) (hJ2_5 (Af, cf, Ab, cb, Ad, cd) _ ⟨HB, HR, HD⟩)
               ·skip
                refine Kd.R_make_step (Kd.int .i64) _ 3 (by rfl) (N := 20) rfl 31 _ _ rfl n rfl rfl Try.underlying31 (.int .i64 0) 8 info3 rfl (by decide) (by omega) 0 (ok := fun _ => True) (okp := fun _ => True) rfl (fun _ hk => hk) trivial HN.out.1 (by have := HN.out.2; omega) (Below.refl _ _) (Nat.le_refl _) ?_
                intro vq wM ho hb hg_ hnew_; clear hg_ hnew_; rw [← HZ.out] at ho
                obtain ⟨Aa, ca, eq_⟩ := Kd.R_slice ho
                subst eq_
                have nN := aK (Kd.R_lower ho (bZ_ HB.out))
                have nR := aK (Kd.R_mono (Kd.R_elder' HR.out (Kd.R_base ho) hb) (fun _ hk => hk.2) : Kd.R (Kd.slice 3 (Kd.int .i64)) 31 wM w.heap.size (fun k_ => some k_ ≠ (Value.slice Aa z0.length ca).ownBlock) (.slice Ab bh.length cb) bh)
                have nB := aK (bT_ HB.out hb)
                clear HB HR; have HR := nR; have HB := nB; have HA := nN; clear nN nR nB; clear ho hb
                refine hK.out _ _ trivial (fun hHeld => ?_)
                clear hK K
                refine norm_ (a' := ?_) ?_ ?_
                rotate_left
                ·show Act.put _ (some 20) _ = _
                 simp only [Act.put, sA_, sZ_, sS_, i64_w, i32_w]; rfl
                exact norm_ (by first | (simp only [putAll, Act.put, sA_, sZ_, sS_]; done) | (simp only [putAll, Act.put, sA_, sZ_, sS_]; rfl)) (hJ2_7 (Af, cf, Ab, cb, Aa, ca) _ ⟨HB, HR, HA⟩)
               ·skip
                refine box_step (by rfl) (N := 6) rfl (cs := #[.slice none 0 0, .slice none 0 0, .slice none 0 0, .slice none 0 0]) (t := 63) ?hr ?_
                (case hr => first | (go_simp; done) | (go_simp; rfl))
                intro g6 hg wM hbox hb
                have nN := aK (And.intro hbox (by rw [hg]; exact bZ_ HB.out : w.heap.size ≤ g6))
                have nR := aK (Kd.R_below HR.out hb)
                have nB := aK (bT_ HB.out hb)
                clear HB HR; have HR := nR; have HB := nB; have HG := nN; clear nN nR nB; clear hg hbox hb
                refine hK.out _ _ trivial (fun hHeld => ?_)
                clear hK K
                refine norm_ (a' := ?_) ?_ ?_
                rotate_left
                ·show Act.put _ (some 6) _ = _
                 simp only [Act.put, sA_, sZ_, sS_, i64_w, i32_w]; rfl
                exact norm_ (by first | (simp only [putAll, Act.put, sA_, sZ_, sS_]; done) | (simp only [putAll, Act.put, sA_, sZ_, sS_]; rfl)) (hJ2_9 (Af, cf, Ab, cb, g6) _ ⟨HB, HR, HG⟩)
             ·skip
              rintro ⟨Aa, ca, g6⟩ wN ⟨HB, HA, HG⟩; have hHeld := trivial
              refine norm_ (a' := ?_) ?_ ?_
              rotate_left; ·simp only [putAll, Act.put, sA_, sZ_, sS_]; rfl
              refine two_ (i := 2) (j := 5) (Ni := some 15) (Nj := some 18) #[true, true, true, false, true, false, true, true, false, true, false] #[true, true, false, false, true, true, true, true, false, true, false] rfl rfl rfl rfl (by kernel_rfl) (by decide) (by decide) (fun K hK => ?_) (fun K hK => ?_)
              ·skip
               refine goes_ Try.func42 (by kernel_rfl) rfl #[.int .i64 n, .slice A1 l.length c1] (by rfl) rfl rfl (by simp only [List.map_toArray, List.map_cons, List.map_nil]; rfl) ?_
               with_reducible refine (precedence_read.calls k n _ _ l bf bh _ ?s1 ?s2 HU.out).mono ?_
               (case s1 => exact Kd.C_below HR1.out HB.out)
               (case s2 => exact HC1.out)
               rintro e wM ⟨v1, v2, rfl, h1, h2, hb⟩
               refine ⟨_, rfl, ?_⟩
               obtain ⟨Af, cf, e1_⟩ := Kd.S_slice h1
               obtain ⟨Ab, cb, e2_⟩ := Kd.S_slice h2
               subst e1_; subst e2_
               have nN := aK (Kd.R_mono (Kd.R_lower (Kd.R_newR (Kd.S_R h2) HA.out) (bZ_ HB.out)) (fun _ hk => hk.2) : Kd.R (Kd.slice 3 (Kd.int .i64)) 31 wM w.heap.size (fun k_ => some k_ ≠ (Value.slice Aa z0.length ca).ownBlock) (.slice Ab bh.length cb) bh)
               have nA := aK (Kd.R_below HA.out hb)
               have nG := aK (And.intro ((hb.block _ (blk_lt HG.out.1)).trans HG.out.1) HG.out.2)
               have nB := aK (bT_ HB.out hb)
               clear HB HA HG; have HA := nA; have HG := nG; have HB := nB; have HR := nN; clear nN nA nG nB; clear h1 h2 hb
               refine hK.out _ _ trivial (fun hHeld => ?_)
               clear hK K
               refine norm_ (a' := ?_) ?_ ?_
               rotate_left
               ·show Act.put _ (some 15) _ = _
                simp only [Act.put, sA_, sZ_, sS_, i64_w, i32_w]; rfl
               refine pure_ (i := 3) (N := some 16) (v := ?_) (a' := ?_) #[true, true, true, true, true, false, true, true, false, true, false] rfl rfl (by kernel_rfl) (fun _ _ _ h => h) (Or.inl ⟨by rfl, ?_⟩) ?_ ?_
               rotate_left; ·intro w'; go_simp; with_reducible rfl
               rotate_left; ·simp only [Act.put, sA_, sZ_, sS_, i64_w, i32_w]; rfl
               exact norm_ (by first | (simp only [putAll, Act.put, sA_, sZ_, sS_]; done) | (simp only [putAll, Act.put, sA_, sZ_, sS_]; rfl)) (hJ2_7_9 (Af, cf, Ab, cb, Aa, ca, g6) _ ⟨HB, HR, HA, HG⟩)
              ·skip
               refine Kd.R_make_step Kd.bool _ 4 (by rfl) (N := 18) rfl 52 _ _ rfl n rfl rfl Try.underlying52 (.bool false) 1 info4 rfl (by decide) (by omega) false (ok := fun _ => True) (okp := fun _ => True) rfl (fun _ hk => hk) trivial HN.out.1 (by have := HN.out.2; omega) (Below.refl _ _) (Nat.le_refl _) ?_
               intro vq wM ho hb hg_ hnew_; clear hg_ hnew_; rw [← HY.out] at ho
               obtain ⟨Ad, cd, eq_⟩ := Kd.R_slice ho
               subst eq_
               have nN := aK (Kd.R_lower ho (bZ_ HB.out))
               have nA := aK (Kd.R_below HA.out hb)
               have nG := aK (And.intro ((hb.block _ (blk_lt HG.out.1)).trans HG.out.1) HG.out.2)
               have nB := aK (bT_ HB.out hb)
               clear HB HA HG; have HA := nA; have HG := nG; have HB := nB; have HD := nN; clear nN nA nG nB; clear ho hb
               refine hK.out _ _ trivial (fun hHeld => ?_)
               clear hK K
               refine norm_ (a' := ?_) ?_ ?_
               rotate_left
               ·show Act.put _ (some 18) _ = _
                simp only [Act.put, sA_, sZ_, sS_, i64_w, i32_w]; rfl
               exact norm_ (by first | (simp only [putAll, Act.put, sA_, sZ_, sS_]; done) | (simp only [putAll, Act.put, sA_, sZ_, sS_]; rfl)) (hJ5_7_9 (Ad, cd, Aa, ca, g6) _ ⟨HB, HD, HA, HG⟩)
            ·skip
             rintro ⟨Ad, cd, g6⟩ wN ⟨HB, HD, HG⟩; have hHeld := trivial
             refine norm_ (a' := ?_) ?_ ?_
             rotate_left; ·simp only [putAll, Act.put, sA_, sZ_, sS_]; rfl
             refine two_ (i := 2) (j := 7) (Ni := some 15) (Nj := some 20) #[true, true, true, false, true, true, true, false, false, true, false] #[true, true, false, false, true, true, true, true, false, true, false] rfl rfl rfl rfl (by kernel_rfl) (by decide) (by decide) (fun K hK => ?_) (fun K hK => ?_)
             ·skip
              refine goes_ Try.func42 (by kernel_rfl) rfl #[.int .i64 n, .slice A1 l.length c1] (by rfl) rfl rfl (by simp only [List.map_toArray, List.map_cons, List.map_nil]; rfl) ?_
              with_reducible refine (precedence_read.calls k n _ _ l bf bh _ ?s1 ?s2 HU.out).mono ?_
              (case s1 => exact Kd.C_below HR1.out HB.out)
              (case s2 => exact HC1.out)
              rintro e wM ⟨v1, v2, rfl, h1, h2, hb⟩
              refine ⟨_, rfl, ?_⟩
              obtain ⟨Af, cf, e1_⟩ := Kd.S_slice h1
              obtain ⟨Ab, cb, e2_⟩ := Kd.S_slice h2
              subst e1_; subst e2_
              have nN := aK (Kd.R_mono (Kd.R_lower (Kd.S_R h2) (bZ_ HB.out)) (fun _ _ => trivial) : Kd.R (Kd.slice 3 (Kd.int .i64)) 31 wM w.heap.size (fun _ => True) (.slice Ab bh.length cb) bh)
              have nD := aK (Kd.R_below HD.out hb)
              have nG := aK (And.intro ((hb.block _ (blk_lt HG.out.1)).trans HG.out.1) HG.out.2)
              have nB := aK (bT_ HB.out hb)
              clear HB HD HG; have HD := nD; have HG := nG; have HB := nB; have HR := nN; clear nN nD nG nB; clear h1 h2 hb
              refine hK.out _ _ trivial (fun hHeld => ?_)
              clear hK K
              refine norm_ (a' := ?_) ?_ ?_
              rotate_left
              ·show Act.put _ (some 15) _ = _
               simp only [Act.put, sA_, sZ_, sS_, i64_w, i32_w]; rfl
              refine pure_ (i := 3) (N := some 16) (v := ?_) (a' := ?_) #[true, true, true, true, true, true, true, false, false, true, false] rfl rfl (by kernel_rfl) (fun _ _ _ h => h) (Or.inl ⟨by rfl, ?_⟩) ?_ ?_
              rotate_left; ·intro w'; go_simp; with_reducible rfl
              rotate_left; ·simp only [Act.put, sA_, sZ_, sS_, i64_w, i32_w]; rfl
              exact norm_ (by first | (simp only [putAll, Act.put, sA_, sZ_, sS_]; done) | (simp only [putAll, Act.put, sA_, sZ_, sS_]; rfl)) (hJ2_5_9 (Af, cf, Ab, cb, Ad, cd, g6) _ ⟨HB, HR, HD, HG⟩)
             ·skip
              refine Kd.R_make_step (Kd.int .i64) _ 3 (by rfl) (N := 20) rfl 31 _ _ rfl n rfl rfl Try.underlying31 (.int .i64 0) 8 info3 rfl (by decide) (by omega) 0 (ok := fun _ => True) (okp := fun _ => True) rfl (fun _ hk => hk) trivial HN.out.1 (by have := HN.out.2; omega) (Below.refl _ _) (Nat.le_refl _) ?_
              intro vq wM ho hb hg_ hnew_; clear hg_ hnew_; rw [← HZ.out] at ho
              obtain ⟨Aa, ca, eq_⟩ := Kd.R_slice ho
              subst eq_
              have nN := aK (Kd.R_lower ho (bZ_ HB.out))
              have nD := aK (Kd.R_below HD.out hb)
              have nG := aK (And.intro ((hb.block _ (blk_lt HG.out.1)).trans HG.out.1) HG.out.2)
              have nB := aK (bT_ HB.out hb)
              clear HB HD HG; have HD := nD; have HG := nG; have HB := nB; have HA := nN; clear nN nD nG nB; clear ho hb
              refine hK.out _ _ trivial (fun hHeld => ?_)
              clear hK K
              refine norm_ (a' := ?_) ?_ ?_
              rotate_left
              ·show Act.put _ (some 20) _ = _
               simp only [Act.put, sA_, sZ_, sS_, i64_w, i32_w]; rfl
              exact norm_ (by first | (simp only [putAll, Act.put, sA_, sZ_, sS_]; done) | (simp only [putAll, Act.put, sA_, sZ_, sS_]; rfl)) (hJ5_7_9 (Ad, cd, Aa, ca, g6) _ ⟨HB, HD, HA, HG⟩)
           ·skip
            rintro ⟨Ad, cd, Aa, ca⟩ wN ⟨HB, HD, HA⟩; have hHeld := trivial
            refine norm_ (a' := ?_) ?_ ?_
            rotate_left; ·simp only [putAll, Act.put, sA_, sZ_, sS_]; rfl
            refine two_ (i := 2) (j := 9) (Ni := some 15) (Nj := some 6) #[true, true, true, false, true, true, true, true, false, false, false] #[true, true, false, false, true, true, true, true, false, true, false] rfl rfl rfl rfl (by kernel_rfl) (by decide) (by decide) (fun K hK => ?_) (fun K hK => ?_)
            ·skip
             refine goes_ Try.func42 (by kernel_rfl) rfl #[.int .i64 n, .slice A1 l.length c1] (by rfl) rfl rfl (by simp only [List.map_toArray, List.map_cons, List.map_nil]; rfl) ?_
             with_reducible refine (precedence_read.calls k n _ _ l bf bh _ ?s1 ?s2 HU.out).mono ?_
             (case s1 => exact Kd.C_below HR1.out HB.out)
             (case s2 => exact HC1.out)
             rintro e wM ⟨v1, v2, rfl, h1, h2, hb⟩
             refine ⟨_, rfl, ?_⟩
             obtain ⟨Af, cf, e1_⟩ := Kd.S_slice h1
             obtain ⟨Ab, cb, e2_⟩ := Kd.S_slice h2
             subst e1_; subst e2_
             have nN := aK (Kd.R_mono (Kd.R_lower (Kd.R_newR (Kd.S_R h2) HA.out) (bZ_ HB.out)) (fun _ hk => hk.2) : Kd.R (Kd.slice 3 (Kd.int .i64)) 31 wM w.heap.size (fun k_ => some k_ ≠ (Value.slice Aa z0.length ca).ownBlock) (.slice Ab bh.length cb) bh)
             have nD := aK (Kd.R_below HD.out hb)
             have nA := aK (Kd.R_below HA.out hb)
             have nB := aK (bT_ HB.out hb)
             clear HB HD HA; have HD := nD; have HA := nA; have HB := nB; have HR := nN; clear nN nD nA nB; clear h1 h2 hb
             refine hK.out _ _ trivial (fun hHeld => ?_)
             clear hK K
             refine norm_ (a' := ?_) ?_ ?_
             rotate_left
             ·show Act.put _ (some 15) _ = _
              simp only [Act.put, sA_, sZ_, sS_, i64_w, i32_w]; rfl
             refine pure_ (i := 3) (N := some 16) (v := ?_) (a' := ?_) #[true, true, true, true, true, true, true, true, false, false, false] rfl rfl (by kernel_rfl) (fun _ _ _ h => h) (Or.inl ⟨by rfl, ?_⟩) ?_ ?_
             rotate_left; ·intro w'; go_simp; with_reducible rfl
             rotate_left; ·simp only [Act.put, sA_, sZ_, sS_, i64_w, i32_w]; rfl
             refine pure_ (i := 8) (N := some 21) (v := ?_) (a' := ?_) #[true, true, true, true, true, true, true, true, true, false, false] rfl rfl (by kernel_rfl) (fun _ _ _ h => h) (Or.inl ⟨by rfl, ?_⟩) ?_ ?_
             rotate_left; ·intro w'; go_simp; with_reducible rfl
             rotate_left; ·simp only [Act.put, sA_, sZ_, sS_, i64_w, i32_w]; rfl
             exact norm_ (by first | (simp only [putAll, Act.put, sA_, sZ_, sS_]; done) | (simp only [putAll, Act.put, sA_, sZ_, sS_]; rfl)) (hJ2_5_7 (Af, cf, Ab, cb, Ad, cd, Aa, ca) _ ⟨HB, HR, HD, HA⟩)
            ·skip
             refine box_step (by rfl) (N := 6) rfl (cs := #[.slice none 0 0, .slice none 0 0, .slice none 0 0, .slice none 0 0]) (t := 63) ?hr ?_
             (case hr => first | (go_simp; done) | (go_simp; rfl))
             intro g6 hg wM hbox hb
             have nN := aK (And.intro hbox (by rw [hg]; exact bZ_ HB.out : w.heap.size ≤ g6))
             have nD := aK (Kd.R_below HD.out hb)
             have nA := aK (Kd.R_below HA.out hb)
             have nB := aK (bT_ HB.out hb)
             clear HB HD HA; have HD := nD; have HA := nA; have HB := nB; have HG := nN; clear nN nD nA nB; clear hg hbox hb
             refine hK.out _ _ trivial (fun hHeld => ?_)
             clear hK K
             refine norm_ (a' := ?_) ?_ ?_
             rotate_left
             ·show Act.put _ (some 6) _ = _
              simp only [Act.put, sA_, sZ_, sS_, i64_w, i32_w]; rfl
             exact norm_ (by first | (simp only [putAll, Act.put, sA_, sZ_, sS_]; done) | (simp only [putAll, Act.put, sA_, sZ_, sS_]; rfl)) (hJ5_7_9 (Ad, cd, Aa, ca, g6) _ ⟨HB, HD, HA, HG⟩)
          ·skip
           rintro ⟨Af, cf, Ab, cb, g6⟩ wN ⟨HB, HR, HG⟩; have hHeld := trivial
           refine norm_ (a' := ?_) ?_ ?_
           rotate_left; ·simp only [putAll, Act.put, sA_, sZ_, sS_]; rfl
           refine two_ (i := 5) (j := 7) (Ni := some 18) (Nj := some 20) #[true, true, true, true, true, true, true, false, false, true, false] #[true, true, true, true, true, false, true, true, false, true, false] rfl rfl rfl rfl (by kernel_rfl) (by decide) (by decide) (fun K hK => ?_) (fun K hK => ?_)
           ·skip
            refine Kd.R_make_step Kd.bool _ 4 (by rfl) (N := 18) rfl 52 _ _ rfl n rfl rfl Try.underlying52 (.bool false) 1 info4 rfl (by decide) (by omega) false (ok := fun _ => True) (okp := fun _ => True) rfl (fun _ hk => hk) trivial HN.out.1 (by have := HN.out.2; omega) (Below.refl _ _) (Nat.le_refl _) ?_
            intro vq wM ho hb hg_ hnew_; clear hg_ hnew_; rw [← HY.out] at ho
            obtain ⟨Ad, cd, eq_⟩ := Kd.R_slice ho
            subst eq_
            have nN := aK (Kd.R_lower ho (bZ_ HB.out))
            have nR := aK (Kd.R_below HR.out hb)
            have nG := aK (And.intro ((hb.block _ (blk_lt HG.out.1)).trans HG.out.1) HG.out.2)
            have nB := aK (bT_ HB.out hb)
            clear HB HR HG; have HR := nR; have HG := nG; have HB := nB; have HD := nN; clear nN nR nG nB; clear ho hb
            refine hK.out _ _ trivial (fun hHeld => ?_)
            clear hK K
            refine norm_ (a' := ?_) ?_ ?_
            rotate_left
            ·show Act.put _ (some 18) _ = _
             simp only [Act.put, sA_, sZ_, sS_, i64_w, i32_w]; rfl
            exact norm_ (by first | (simp only [putAll, Act.put, sA_, sZ_, sS_]; done) | (simp only [putAll, Act.put, sA_, sZ_, sS_]; rfl)) (hJ2_5_9 (Af, cf, Ab, cb, Ad, cd, g6) _ ⟨HB, HR, HD, HG⟩)
           ·skip
            refine Kd.R_make_step (Kd.int .i64) _ 3 (by rfl) (N := 20) rfl 31 _ _ rfl n rfl rfl Try.underlying31 (.int .i64 0) 8 info3 rfl (by decide) (by omega) 0 (ok := fun _ => True) (okp := fun _ => True) rfl (fun _ hk => hk) trivial HN.out.1 (by have := HN.out.2; omega) (Below.refl _ _) (Nat.le_refl _) ?_
            intro vq wM ho hb hg_ hnew_; clear hg_ hnew_; rw [← HZ.out] at ho
            obtain ⟨Aa, ca, eq_⟩ := Kd.R_slice ho
            subst eq_
            have nN := aK (Kd.R_lower ho (bZ_ HB.out))
            have nR := aK (Kd.R_mono (Kd.R_elder' HR.out (Kd.R_base ho) hb) (fun _ hk => hk.2) : Kd.R (Kd.slice 3 (Kd.int .i64)) 31 wM w.heap.size (fun k_ => some k_ ≠ (Value.slice Aa z0.length ca).ownBlock) (.slice Ab bh.length cb) bh)
            have nG := aK (And.intro ((hb.block _ (blk_lt HG.out.1)).trans HG.out.1) HG.out.2)
            have nB := aK (bT_ HB.out hb)
            clear HB HR HG; have HR := nR; have HG := nG; have HB := nB; have HA := nN; clear nN nR nG nB; clear ho hb
            refine hK.out _ _ trivial (fun hHeld => ?_)
            clear hK K
            refine norm_ (a' := ?_) ?_ ?_
            rotate_left
            ·show Act.put _ (some 20) _ = _
             simp only [Act.put, sA_, sZ_, sS_, i64_w, i32_w]; rfl
            exact norm_ (by first | (simp only [putAll, Act.put, sA_, sZ_, sS_]; done) | (simp only [putAll, Act.put, sA_, sZ_, sS_]; rfl)) (hJ2_7_9 (Af, cf, Ab, cb, Aa, ca, g6) _ ⟨HB, HR, HA, HG⟩)
         ·skip
          rintro ⟨Af, cf, Ab, cb, Aa, ca⟩ wN ⟨HB, HR, HA⟩; have hHeld := trivial
          refine norm_ (a' := ?_) ?_ ?_
          rotate_left; ·simp only [putAll, Act.put, sA_, sZ_, sS_]; rfl
          refine two_ (i := 5) (j := 9) (Ni := some 18) (Nj := some 6) #[true, true, true, true, true, true, true, true, false, false, false] #[true, true, true, true, true, false, true, true, false, true, false] rfl rfl rfl rfl (by kernel_rfl) (by decide) (by decide) (fun K hK => ?_) (fun K hK => ?_)
          ·skip
           refine Kd.R_make_step Kd.bool _ 4 (by rfl) (N := 18) rfl 52 _ _ rfl n rfl rfl Try.underlying52 (.bool false) 1 info4 rfl (by decide) (by omega) false (ok := fun _ => True) (okp := fun _ => True) rfl (fun _ hk => hk) trivial HN.out.1 (by have := HN.out.2; omega) (Below.refl _ _) (Nat.le_refl _) ?_
           intro vq wM ho hb hg_ hnew_; clear hg_ hnew_; rw [← HY.out] at ho
           obtain ⟨Ad, cd, eq_⟩ := Kd.R_slice ho
           subst eq_
           have nN := aK (Kd.R_lower ho (bZ_ HB.out))
           have nR := aK (Kd.R_below HR.out hb)
           have nA := aK (Kd.R_below HA.out hb)
           have nB := aK (bT_ HB.out hb)
           clear HB HR HA; have HR := nR; have HA := nA; have HB := nB; have HD := nN; clear nN nR nA nB; clear ho hb
           refine hK.out _ _ trivial (fun hHeld => ?_)
           clear hK K
           refine norm_ (a' := ?_) ?_ ?_
           rotate_left
           ·show Act.put _ (some 18) _ = _
            simp only [Act.put, sA_, sZ_, sS_, i64_w, i32_w]; rfl
           refine pure_ (i := 8) (N := some 21) (v := ?_) (a' := ?_) #[true, true, true, true, true, true, true, true, true, false, false] rfl rfl (by kernel_rfl) (fun _ _ _ h => h) (Or.inl ⟨by rfl, ?_⟩) ?_ ?_
           rotate_left; ·intro w'; go_simp; with_reducible rfl
           rotate_left; ·simp only [Act.put, sA_, sZ_, sS_, i64_w, i32_w]; rfl
           exact norm_ (by first | (simp only [putAll, Act.put, sA_, sZ_, sS_]; done) | (simp only [putAll, Act.put, sA_, sZ_, sS_]; rfl)) (hJ2_5_7 (Af, cf, Ab, cb, Ad, cd, Aa, ca) _ ⟨HB, HR, HD, HA⟩)
          ·skip
           refine box_step (by rfl) (N := 6) rfl (cs := #[.slice none 0 0, .slice none 0 0, .slice none 0 0, .slice none 0 0]) (t := 63) ?hr ?_
           (case hr => first | (go_simp; done) | (go_simp; rfl))
           intro g6 hg wM hbox hb
           have nN := aK (And.intro hbox (by rw [hg]; exact bZ_ HB.out : w.heap.size ≤ g6))
           have nR := aK (Kd.R_below HR.out hb)
           have nA := aK (Kd.R_below HA.out hb)
           have nB := aK (bT_ HB.out hb)
           clear HB HR HA; have HR := nR; have HA := nA; have HB := nB; have HG := nN; clear nN nR nA nB; clear hg hbox hb
           refine hK.out _ _ trivial (fun hHeld => ?_)
           clear hK K
           refine norm_ (a' := ?_) ?_ ?_
           rotate_left
           ·show Act.put _ (some 6) _ = _
            simp only [Act.put, sA_, sZ_, sS_, i64_w, i32_w]; rfl
           exact norm_ (by first | (simp only [putAll, Act.put, sA_, sZ_, sS_]; done) | (simp only [putAll, Act.put, sA_, sZ_, sS_]; rfl)) (hJ2_7_9 (Af, cf, Ab, cb, Aa, ca, g6) _ ⟨HB, HR, HA, HG⟩)
        ·skip
         rintro ⟨Af, cf, Ab, cb, Ad, cd⟩ wN ⟨HB, HR, HD⟩; have hHeld := trivial
         refine norm_ (a' := ?_) ?_ ?_
         rotate_left; ·simp only [putAll, Act.put, sA_, sZ_, sS_]; rfl
         refine two_ (i := 7) (j := 9) (Ni := some 20) (Nj := some 6) #[true, true, true, true, true, true, true, true, false, false, false] #[true, true, true, true, true, true, true, false, false, true, false] rfl rfl rfl rfl (by kernel_rfl) (by decide) (by decide) (fun K hK => ?_) (fun K hK => ?_)
         ·skip
          refine Kd.R_make_step (Kd.int .i64) _ 3 (by rfl) (N := 20) rfl 31 _ _ rfl n rfl rfl Try.underlying31 (.int .i64 0) 8 info3 rfl (by decide) (by omega) 0 (ok := fun _ => True) (okp := fun _ => True) rfl (fun _ hk => hk) trivial HN.out.1 (by have := HN.out.2; omega) (Below.refl _ _) (Nat.le_refl _) ?_
          intro vq wM ho hb hg_ hnew_; clear hg_ hnew_; rw [← HZ.out] at ho
          obtain ⟨Aa, ca, eq_⟩ := Kd.R_slice ho
          subst eq_
          have nN := aK (Kd.R_lower ho (bZ_ HB.out))
          have nR := aK (Kd.R_mono (Kd.R_elder' HR.out (Kd.R_base ho) hb) (fun _ hk => hk.2) : Kd.R (Kd.slice 3 (Kd.int .i64)) 31 wM w.heap.size (fun k_ => some k_ ≠ (Value.slice Aa z0.length ca).ownBlock) (.slice Ab bh.length cb) bh)
          have nD := aK (Kd.R_below HD.out hb)
          have nB := aK (bT_ HB.out hb)
          clear HB HR HD; have HR := nR; have HD := nD; have HB := nB; have HA := nN; clear nN nR nD nB; clear ho hb
          refine hK.out _ _ trivial (fun hHeld => ?_)
          clear hK K
          refine norm_ (a' := ?_) ?_ ?_
          rotate_left
          ·show Act.put _ (some 20) _ = _
           simp only [Act.put, sA_, sZ_, sS_, i64_w, i32_w]; rfl
          refine pure_ (i := 8) (N := some 21) (v := ?_) (a' := ?_) #[true, true, true, true, true, true, true, true, true, false, false] rfl rfl (by kernel_rfl) (fun _ _ _ h => h) (Or.inl ⟨by rfl, ?_⟩) ?_ ?_
          rotate_left; ·intro w'; go_simp; with_reducible rfl
          rotate_left; ·simp only [Act.put, sA_, sZ_, sS_, i64_w, i32_w]; rfl
          exact norm_ (by first | (simp only [putAll, Act.put, sA_, sZ_, sS_]; done) | (simp only [putAll, Act.put, sA_, sZ_, sS_]; rfl)) (hJ2_5_7 (Af, cf, Ab, cb, Ad, cd, Aa, ca) _ ⟨HB, HR, HD, HA⟩)
         ·skip
          refine box_step (by rfl) (N := 6) rfl (cs := #[.slice none 0 0, .slice none 0 0, .slice none 0 0, .slice none 0 0]) (t := 63) ?hr ?_
          (case hr => first | (go_simp; done) | (go_simp; rfl))
          intro g6 hg wM hbox hb
          have nN := aK (And.intro hbox (by rw [hg]; exact bZ_ HB.out : w.heap.size ≤ g6))
          have nR := aK (Kd.R_below HR.out hb)
          have nD := aK (Kd.R_below HD.out hb)
          have nB := aK (bT_ HB.out hb)
          clear HB HR HD; have HR := nR; have HD := nD; have HB := nB; have HG := nN; clear nN nR nD nB; clear hg hbox hb
          refine hK.out _ _ trivial (fun hHeld => ?_)
          clear hK K
          refine norm_ (a' := ?_) ?_ ?_
          rotate_left
          ·show Act.put _ (some 6) _ = _
           simp only [Act.put, sA_, sZ_, sS_, i64_w, i32_w]; rfl
          exact norm_ (by first | (simp only [putAll, Act.put, sA_, sZ_, sS_]; done) | (simp only [putAll, Act.put, sA_, sZ_, sS_]; rfl)) (hJ2_5_9 (Af, cf, Ab, cb, Ad, cd, g6) _ ⟨HB, HR, HD, HG⟩)
       ·skip
        rintro ⟨Ad, cd, Aa, ca, g6⟩ wN ⟨HB, HD, HA, HG⟩; have hHeld := trivial
        refine norm_ (a' := ?_) ?_ ?_
        rotate_left; ·simp only [putAll, Act.put, sA_, sZ_, sS_]; rfl
        refine one_ (i := 2) (N := some 15) #[true, true, true, false, true, true, true, true, false, true, false] rfl rfl (by kernel_rfl) (by decide) (fun K hK => ?_)
        refine goes_ Try.func42 (by kernel_rfl) rfl #[.int .i64 n, .slice A1 l.length c1] (by rfl) rfl rfl (by simp only [List.map_toArray, List.map_cons, List.map_nil]; rfl) ?_
        with_reducible refine (precedence_read.calls k n _ _ l bf bh _ ?s1 ?s2 HU.out).mono ?_
        (case s1 => exact Kd.C_below HR1.out HB.out)
        (case s2 => exact HC1.out)
        rintro e wM ⟨v1, v2, rfl, h1, h2, hb⟩
        refine ⟨_, rfl, ?_⟩
        obtain ⟨Af, cf, e1_⟩ := Kd.S_slice h1
        obtain ⟨Ab, cb, e2_⟩ := Kd.S_slice h2
        subst e1_; subst e2_
        have nN := aK (Kd.R_mono (Kd.R_lower (Kd.R_newR (Kd.S_R h2) HA.out) (bZ_ HB.out)) (fun _ hk => hk.2) : Kd.R (Kd.slice 3 (Kd.int .i64)) 31 wM w.heap.size (fun k_ => some k_ ≠ (Value.slice Aa z0.length ca).ownBlock) (.slice Ab bh.length cb) bh)
        have nD := aK (Kd.R_below HD.out hb)
        have nA := aK (Kd.R_below HA.out hb)
        have nG := aK (And.intro ((hb.block _ (blk_lt HG.out.1)).trans HG.out.1) HG.out.2)
        have nB := aK (bT_ HB.out hb)
        clear HB HD HA HG; have HD := nD; have HA := nA; have HG := nG; have HB := nB; have HR := nN; clear nN nD nA nG nB; clear h1 h2 hb
        refine hK.out _ _ trivial (fun hHeld => ?_)
        clear hK K
        refine norm_ (a' := ?_) ?_ ?_
        rotate_left
        ·show Act.put _ (some 15) _ = _
         simp only [Act.put, sA_, sZ_, sS_, i64_w, i32_w]; rfl
        refine pure_ (i := 3) (N := some 16) (v := ?_) (a' := ?_) #[true, true, true, true, true, true, true, true, false, true, false] rfl rfl (by kernel_rfl) (fun _ _ _ h => h) (Or.inl ⟨by rfl, ?_⟩) ?_ ?_
        rotate_left; ·intro w'; go_simp; with_reducible rfl
        rotate_left; ·simp only [Act.put, sA_, sZ_, sS_, i64_w, i32_w]; rfl
        refine pure_ (i := 8) (N := some 21) (v := ?_) (a' := ?_) #[true, true, true, true, true, true, true, true, true, true, false] rfl rfl (by kernel_rfl) (fun _ _ _ h => h) (Or.inl ⟨by rfl, ?_⟩) ?_ ?_
        rotate_left; ·intro w'; go_simp; with_reducible rfl
        rotate_left; ·simp only [Act.put, sA_, sZ_, sS_, i64_w, i32_w]; rfl
        exact norm_ (by first | (simp only [putAll, Act.put, sA_, sZ_, sS_]; done) | (simp only [putAll, Act.put, sA_, sZ_, sS_]; rfl)) (hJ2_5_7_9 (Af, cf, Ab, cb, Ad, cd, Aa, ca, g6) _ ⟨HB, HR, HD, HA, HG⟩)
      ·skip
       rintro ⟨Af, cf, Ab, cb, Aa, ca, g6⟩ wN ⟨HB, HR, HA, HG⟩; have hHeld := trivial
       refine norm_ (a' := ?_) ?_ ?_
       rotate_left; ·simp only [putAll, Act.put, sA_, sZ_, sS_]; rfl
       refine one_ (i := 5) (N := some 18) #[true, true, true, true, true, true, true, true, false, true, false] rfl rfl (by kernel_rfl) (by decide) (fun K hK => ?_)
       refine Kd.R_make_step Kd.bool _ 4 (by rfl) (N := 18) rfl 52 _ _ rfl n rfl rfl Try.underlying52 (.bool false) 1 info4 rfl (by decide) (by omega) false (ok := fun _ => True) (okp := fun _ => True) rfl (fun _ hk => hk) trivial HN.out.1 (by have := HN.out.2; omega) (Below.refl _ _) (Nat.le_refl _) ?_
       intro vq wM ho hb hg_ hnew_; clear hg_ hnew_; rw [← HY.out] at ho
       obtain ⟨Ad, cd, eq_⟩ := Kd.R_slice ho
       subst eq_
       have nN := aK (Kd.R_lower ho (bZ_ HB.out))
       have nR := aK (Kd.R_below HR.out hb)
       have nA := aK (Kd.R_below HA.out hb)
       have nG := aK (And.intro ((hb.block _ (blk_lt HG.out.1)).trans HG.out.1) HG.out.2)
       have nB := aK (bT_ HB.out hb)
       clear HB HR HA HG; have HR := nR; have HA := nA; have HG := nG; have HB := nB; have HD := nN; clear nN nR nA nG nB; clear ho hb
       refine hK.out _ _ trivial (fun hHeld => ?_)
       clear hK K
       refine norm_ (a' := ?_) ?_ ?_
       rotate_left
       ·show Act.put _ (some 18) _ = _
        simp only [Act.put, sA_, sZ_, sS_, i64_w, i32_w]; rfl
       refine pure_ (i := 8) (N := some 21) (v := ?_) (a' := ?_) #[true, true, true, true, true, true, true, true, true, true, false] rfl rfl (by kernel_rfl) (fun _ _ _ h => h) (Or.inl ⟨by rfl, ?_⟩) ?_ ?_
       rotate_left; ·intro w'; go_simp; with_reducible rfl
       rotate_left; ·simp only [Act.put, sA_, sZ_, sS_, i64_w, i32_w]; rfl
       exact norm_ (by first | (simp only [putAll, Act.put, sA_, sZ_, sS_]; done) | (simp only [putAll, Act.put, sA_, sZ_, sS_]; rfl)) (hJ2_5_7_9 (Af, cf, Ab, cb, Ad, cd, Aa, ca, g6) _ ⟨HB, HR, HD, HA, HG⟩)
     ·skip
      rintro ⟨Af, cf, Ab, cb, Ad, cd, g6⟩ wN ⟨HB, HR, HD, HG⟩; have hHeld := trivial
      refine norm_ (a' := ?_) ?_ ?_
      rotate_left; ·simp only [putAll, Act.put, sA_, sZ_, sS_]; rfl
      refine one_ (i := 7) (N := some 20) #[true, true, true, true, true, true, true, true, false, true, false] rfl rfl (by kernel_rfl) (by decide) (fun K hK => ?_)
      refine Kd.R_make_step (Kd.int .i64) _ 3 (by rfl) (N := 20) rfl 31 _ _ rfl n rfl rfl Try.underlying31 (.int .i64 0) 8 info3 rfl (by decide) (by omega) 0 (ok := fun _ => True) (okp := fun _ => True) rfl (fun _ hk => hk) trivial HN.out.1 (by have := HN.out.2; omega) (Below.refl _ _) (Nat.le_refl _) ?_
      intro vq wM ho hb hg_ hnew_; clear hg_ hnew_; rw [← HZ.out] at ho
      obtain ⟨Aa, ca, eq_⟩ := Kd.R_slice ho
      subst eq_
      have nN := aK (Kd.R_lower ho (bZ_ HB.out))
      have nR := aK (Kd.R_mono (Kd.R_elder' HR.out (Kd.R_base ho) hb) (fun _ hk => hk.2) : Kd.R (Kd.slice 3 (Kd.int .i64)) 31 wM w.heap.size (fun k_ => some k_ ≠ (Value.slice Aa z0.length ca).ownBlock) (.slice Ab bh.length cb) bh)
      have nD := aK (Kd.R_below HD.out hb)
      have nG := aK (And.intro ((hb.block _ (blk_lt HG.out.1)).trans HG.out.1) HG.out.2)
      have nB := aK (bT_ HB.out hb)
      clear HB HR HD HG; have HR := nR; have HD := nD; have HG := nG; have HB := nB; have HA := nN; clear nN nR nD nG nB; clear ho hb
      refine hK.out _ _ trivial (fun hHeld => ?_)
      clear hK K
      refine norm_ (a' := ?_) ?_ ?_
      rotate_left
      ·show Act.put _ (some 20) _ = _
       simp only [Act.put, sA_, sZ_, sS_, i64_w, i32_w]; rfl
      refine pure_ (i := 8) (N := some 21) (v := ?_) (a' := ?_) #[true, true, true, true, true, true, true, true, true, true, false] rfl rfl (by kernel_rfl) (fun _ _ _ h => h) (Or.inl ⟨by rfl, ?_⟩) ?_ ?_
      rotate_left; ·intro w'; go_simp; with_reducible rfl
      rotate_left; ·simp only [Act.put, sA_, sZ_, sS_, i64_w, i32_w]; rfl
      exact norm_ (by first | (simp only [putAll, Act.put, sA_, sZ_, sS_]; done) | (simp only [putAll, Act.put, sA_, sZ_, sS_]; rfl)) (hJ2_5_7_9 (Af, cf, Ab, cb, Ad, cd, Aa, ca, g6) _ ⟨HB, HR, HD, HA, HG⟩)
    ·skip
     rintro ⟨Af, cf, Ab, cb, Ad, cd, Aa, ca⟩ wN ⟨HB, HR, HD, HA⟩; have hHeld := trivial
     refine norm_ (a' := ?_) ?_ ?_
     rotate_left; ·simp only [putAll, Act.put, sA_, sZ_, sS_]; rfl
     refine one_ (i := 9) (N := some 6) #[true, true, true, true, true, true, true, true, true, true, false] rfl rfl (by kernel_rfl) (by decide) (fun K hK => ?_)
     refine box_step (by rfl) (N := 6) rfl (cs := #[.slice none 0 0, .slice none 0 0, .slice none 0 0, .slice none 0 0]) (t := 63) ?hr ?_
     (case hr => first | (go_simp; done) | (go_simp; rfl))
     intro g6 hg wM hbox hb
     have nN := aK (And.intro hbox (by rw [hg]; exact bZ_ HB.out : w.heap.size ≤ g6))
     have nR := aK (Kd.R_below HR.out hb)
     have nD := aK (Kd.R_below HD.out hb)
     have nA := aK (Kd.R_below HA.out hb)
     have nB := aK (bT_ HB.out hb)
     clear HB HR HD HA; have HR := nR; have HD := nD; have HA := nA; have HB := nB; have HG := nN; clear nN nR nD nA nB; clear hg hbox hb
     refine hK.out _ _ trivial (fun hHeld => ?_)
     clear hK K
     refine norm_ (a' := ?_) ?_ ?_
     rotate_left
     ·show Act.put _ (some 6) _ = _
      simp only [Act.put, sA_, sZ_, sS_, i64_w, i32_w]; rfl
     exact norm_ (by first | (simp only [putAll, Act.put, sA_, sZ_, sS_]; done) | (simp only [putAll, Act.put, sA_, sZ_, sS_]; rfl)) (hJ2_5_7_9 (Af, cf, Ab, cb, Ad, cd, Aa, ca, g6) _ ⟨HB, HR, HD, HA, HG⟩)
   rintro ⟨Af, cf, Ab, cb, Ad, cd, Aa, ca, g6⟩ wN ⟨HB, HR, HD, HA, HG⟩; have hHeld := trivial
   refine norm_ (a' := ?_) ?_ ?_
   rotate_left; ·simp only [putAll, Act.put, sA_, sZ_, sS_]; rfl
   refine last_ (i := 10) (N := none) #[true, true, true, true, true, true, true, true, true, true, true] rfl rfl (by kernel_rfl) (by decide) (fun K hK => ?_)
   have hG := HG.out.1
   have hz0 := (blk_cell hG 0).trans (rfl : _ = some (Value.slice none 0 0))
   have hz1 := (blk_cell hG 1).trans (rfl : _ = some (Value.slice none 0 0))
   have hz2 := (blk_cell hG 2).trans (rfl : _ = some (Value.slice none 0 0))
   have hz3 := (blk_cell hG 3).trans (rfl : _ = some (Value.slice none 0 0))
   have hf0 := blk_frozen hG 0
   have hf1 := blk_frozen hG 1
   have hf2 := blk_frozen hG 2
   have hf3 := blk_frozen hG 3
   have HE_ := aK (setAll HG.out.1 HG.out.2 HB.out HR.out HD.out HA.out)
   refine skip_ (w1 := (((wN.setCell ⟨g6, 0, none⟩ (.slice Ab bh.length cb)).setCell ⟨g6, 1, none⟩ (.slice Ad y0.length cd)).setCell ⟨g6, 2, none⟩ (.slice Aa z0.length ca)).setCell ⟨g6, 3, none⟩ (.slice none 0 0)) (by rfl) rfl ?_ ?_
   ·go_simp
    try rfl
   clear hG hz0 hz1 hz2 hz3 hf0 hf1 hf2 hf3 HB HR HD HA HG
   generalize (((wN.setCell ⟨g6, 0, none⟩ (.slice Ab bh.length cb)).setCell ⟨g6, 1, none⟩ (.slice Ad y0.length cd)).setCell ⟨g6, 2, none⟩ (.slice Aa z0.length ca)).setCell ⟨g6, 3, none⟩ (.slice none 0 0) = w5 at HE_ ⊢
   refine hK.out _ _ ?_
   clear hK K
   refine done_ (by kernel_rfl) ?_
   clear HB; go_wp2
   by_cases hn : n = 0
   ·subst hn
    have HR' : Aside0 (r1 = [] ∧ r2 = false) := ⟨by
     have h := HH.out
     cases k with
     | zero => exact absurd h (by simp [cyc.l0])
     | succ k => rw [cyc.l0, if_neg (by omega)] at h; simp only [Option.some.injEq, Prod.mk.injEq] at h; exact ⟨h.1.symm, h.2.symm⟩⟩
    obtain ⟨e1, e2⟩ := HR'.out
    subst e1; subst e2
    go_loopg [23] 0 (fun kq v23 w' => v23 = .int .i64 0 ∧ Aside0 (w5 = w'))
    case atStart => exact ⟨rfl, ⟨rfl⟩⟩
    case round =>
     obtain ⟨rfl, HW⟩ := hrel
     go_wp2
     go_ret2
     exact ⟨_, rfl, Kd.R_nil _ _ _ _ _, by rw [← HW.out]; exact HE_.out.2.2.1⟩
   ·have hpos : 0 < n.toNat := by have := HN.out.1; omega
    obtain ⟨ga, gd, ed, ea, hE⟩ := HE_.out.env (by rw [HY.out]; simpa using hpos) (by rw [HZ.out]; simpa using hpos)
    subst ed; subst ea; have HEN := aK hE
    obtain ⟨nY, hnY⟩ : ∃ m, m = y0.length := ⟨_, rfl⟩
    obtain ⟨nZ, hnZ⟩ : ∃ m, m = z0.length := ⟨_, rfl⟩
    obtain ⟨N1, hN1⟩ : ∃ m, m = w5.heap.size := ⟨_, rfl⟩
    rw [← hnY, ← hnZ, ← hN1] at HEN; clear hn hpos hE HE_ hnY hnZ hN1
    go_loopg [23] k (fun kq v23 w' => ∃ (i : Int) (D : List Bool) (T P : List Int) (vp : Value), v23 = .int .i64 i ∧ Aside0 (cyc.l0 n bh kq i D T P = some (r1, r2)) ∧ Aside0 (kq ≤ k) ∧ Aside0 (EnvW w.heap.size N1 g6 ga gd bh Ab cb nY cd nZ ca w w' D T P vp))
    case atStart => exact ⟨0, y0, z0, [], _, rfl, HH, ⟨Nat.le_refl _⟩, HEN⟩
    case round =>
     clear HH HEN
     obtain ⟨i, D, T, P, vp, rfl, HA, HK, HEN⟩ := hrel
     cases gk with
     | zero => exact absurd HA.out (by simp [cyc.l0])
     | succ k1 =>
      have H := HA.out
      clear HA; rw [cyc.l0] at H
      by_cases c : i < n
      ·rw [if_pos c] at H
       have cb' := decide_eq_true c
       obtain ⟨⟨u, D2, T2, P2⟩, hu, H⟩ := oB_ H
       have HV := aK hu
       dsimp only at H
       clear c hu
       by_cases z : u = []
       ·rw [if_pos z] at H; have HX := aK H; have HZ0 := aK z; clear H z
        go_wp2_with (go_at_call 43; go_must (refine (visit.calls w.heap.size N1 g6 ga gd bh Ab cb nY cd nZ ca w (Nat.le_refl _) k1 i D T P u D2 T2 P2 vp _ HEN.out HV.out).mono ?_; rintro e w6 ⟨vr, vp', rfl, h1, h2, h3, h4⟩; have h1' := h1 HZ0.out; subst h1'; have HE6 := aK h3; have hq := fun (W : World) => run_neq_slice_nil (P := Try.prog) (w := W) 31 3 none 0 0 Try.underlying31; clear h1 h2 h3 h4))
        go_roundg k1
        case measure => have := HK.out; omega
        case rel => exact ⟨wrap64 (i + 1), D2, T2, P2, vp', (by first | rfl | (simp; done)), HX, ⟨by have := HK.out; omega⟩, HE6⟩
       ·rw [if_neg z] at H
        simp only [Option.some.injEq, Prod.mk.injEq] at H
        obtain ⟨rfl, rfl⟩ := H
        have HZ0 := aK z; clear z
        go_wp2_with (go_at_call 43; go_must (refine (visit.calls w.heap.size N1 g6 ga gd bh Ab cb nY cd nZ ca w (Nat.le_refl _) k1 i D T P u D2 T2 P2 vp _ HEN.out HV.out).mono ?_; rintro e w6 ⟨vr, vp', rfl, h1, h2, h3, h4⟩; obtain ⟨adr, cr, er⟩ := R_len_nil h2 HZ0.out; subst er; have HE6 := aK h3; have HO6 := aK h2; have hq := fun (W : World) => run_neq_slice_nil (P := Try.prog) (w := W) 31 3 (some adr) u.length cr Try.underlying31; clear h1 h2 h3 h4))
        go_ret2
        exact ⟨_, rfl, HO6.out, HE6.out.b⟩
      ·rw [if_neg c] at H
       have cb' := decide_eq_false c
       simp only [Option.some.injEq, Prod.mk.injEq] at H
       obtain ⟨rfl, rfl⟩ := H
       clear c; go_wp2
       go_ret2
       exact ⟨_, rfl, Kd.R_nil _ _ _ _ _, HEN.out.b⟩
  ·rw [if_neg hc] at H; cases H
 ·rw [if_neg z] at H
  have zb : (e != 0) = true := bne_iff_ne.mpr z
  have zc : (e == 0) = false := beq_eq_false_iff_ne.mpr z
  simp only [Option.some.injEq, Prod.mk.injEq] at H
  obtain ⟨rfl, rfl⟩ := H
  clear z
  go_enter Try.func22, Try.ntmps22
  go_wp2_with (go_at_call 20; go_must ((with_reducible refine (precedence_Valid.calls k n _ _ l e _ ?s1 ?s2 HE.out).mono ?_); (case s1 => exact HR1.out); (case s2 => exact HC1.out); rintro e w8 ⟨rfl, hb⟩; have n_ := aK hb; clear HB hb; have HB := n_; clear n_))
  go_ret2
  exact ⟨_, rfl, Kd.R_nil _ _ _ _ _, HB.out⟩
theorem precedence_Cycle.calls (k : Nat) (a0 : Int) (A1 : Option Addr) (c1 : Nat) (l1 : List S47) (r1 : List Int) (r2 : Bool) (w : World) (hr1 : Kd.C k47 w A1 l1.length l1) (hc1 : l1.length ≤ c1) (h : precedence_Cycle.f k a0 l1 = some (r1, r2)) :
  Calls Try.prog 22 #[.int .i64 a0, .slice A1 l1.length c1] w fun e w' => ∃ v0_ : Value, e = .returned (.tuple #[v0_, .bool r2]) ∧ Kd.R (Kd.int .i64) 3 w' w.heap.size (fun _ => True) v0_ r1 ∧ Below w.heap.size w w' :=
 (precedence_Cycle.calls_ k a0 A1 c1 l1 r1 r2 w hr1 hc1 h).mono fun _ _ hp => hp
end Go.Proofs.Ytbbkclcfmcjlgaa.P



namespace Go.Proofs.Ytbbkclcfmcjlgaa.P
open Go.RowKit Go.Proofs.YtbbkclcfmcjlgaaW.PrintWords Go.Proofs.YtbbkclcfmcjlgaaW.PrintLast Go.Proofs.YtbbkclcfmcjlgaaW.PrintMore
attribute [local go_sem] max2_int min2_int max_two min_two max_three min_three max_four min_four
set_option linter.unusedVariables false
set_option linter.unusedSimpArgs false

def swarflaw29_awake.f (k : Nat)  : Option (Bool) := (some (([(⟨2, 0⟩ : S47), (⟨0, 1⟩ : S47)] : List (S47)) : List (S47))).bind fun y145 => ((precedence_Order.f k 4 y145).bind fun bt148 => ((precedence_Closure.f k 4 y145).bind fun bt152 => ((precedence_Best.f k 4 y145 (([1, 2, 1, 2] : List Int))).bind fun bt159 => ((precedence_Cycle.f k 2 (([(⟨0, 1⟩ : S47), (⟨1, 0⟩ : S47)] : List (S47)))).bind fun bt167 => (if bt148.2 = 0 then ((swarfref29_Ints.f k bt148.1 (([2, 0, 1, 3] : List Int))).bind fun t174 => (if t174 = true then (if bt152.2 = 0 then ((swarfref29_Pairs.f k bt152.1 (([(⟨0, 1⟩ : S47), (⟨2, 0⟩ : S47), (⟨2, 1⟩ : S47)] : List (S47)))).bind fun t178 => (if t178 = true then (if bt159.2.2 = 0 then (if bt159.2.1 = 1 then ((swarfref29_Ints.f k bt159.1 (([2, 0, 1, 3] : List Int))).bind fun t182 => (if t182 = true then (if bt167.2 = true then ((swarfref29_Circle.f k (([(⟨0, 1⟩ : S47), (⟨1, 0⟩ : S47)] : List (S47))) bt167.1).bind fun t186 => (some t186)) else (some false)) else (some false))) else (some false)) else (some false)) else (some false))) else (some false)) else (some false))) else (some false))))))
theorem swarflaw29_awake.mono : ∀ k, LeO (swarflaw29_awake.f k ) (swarflaw29_awake.f (k + 1) ) := by
 intro  k
 unfold swarflaw29_awake.f
 repeat' first
   | (with_reducible exact precedence_Best.mono _ _ _ _)
   | (with_reducible exact precedence_Closure.mono _ _ _)
   | (with_reducible exact precedence_Cycle.mono _ _ _)
   | (with_reducible exact precedence_Order.mono _ _ _)
   | (with_reducible exact swarfref29_Circle.mono _ _ _)
   | (with_reducible exact swarfref29_Ints.mono _ _ _)
   | (with_reducible exact swarfref29_Pairs.mono _ _ _)
   | (with_reducible exact LeO.refl _)
   | (with_reducible exact LeO.none _)
   | (with_reducible refine LeO.ite ?_ ?_)
   | (with_reducible refine LeO.bind ?_ (fun _ => ?_))
   | exact precedence_Best.mono _ _ _ _
   | exact precedence_Closure.mono _ _ _
   | exact precedence_Cycle.mono _ _ _
   | exact precedence_Order.mono _ _ _
   | exact swarfref29_Circle.mono _ _ _
   | exact swarfref29_Ints.mono _ _ _
   | exact swarfref29_Pairs.mono _ _ _
   | exact LeO.none _
   | refine LeO.ite ?_ ?_
   | refine LeO.bind ?_ (fun _ => ?_)
theorem swarflaw29_awake.small : swarflaw29_awake.f 60 = some true := by decide +kernel
set_option maxHeartbeats 8000000 in
set_option maxRecDepth 100000 in
theorem swarflaw29_awake.calls (k : Nat)  (r : Bool) (w : World) (h : swarflaw29_awake.f k  = some r) :
  Calls Try.prog 12 #[] w fun e w' => e = .returned (.bool r) ∧ Below w.heap.size w w' := by
 have HRT := aK (show r = true from by
  have e1 := at_rounds (fun k => swarflaw29_awake.mono k) (Nat.le_max_right k 60) swarflaw29_awake.small
  have e2 := at_rounds (fun k => swarflaw29_awake.mono k) (Nat.le_max_left k 60) h
  rw [e2] at e1
  exact Option.some.inj e1)
 have hu47 := Try.underlying47
 have HB := aK (Below.refl w.heap.size w)
 have H : ((some (([(⟨2, 0⟩ : S47), (⟨0, 1⟩ : S47)] : List (S47)) : List (S47))).bind fun y145 => ((precedence_Order.f k 4 y145).bind fun bt148 => ((precedence_Closure.f k 4 y145).bind fun bt152 => ((precedence_Best.f k 4 y145 (([1, 2, 1, 2] : List Int))).bind fun bt159 => ((precedence_Cycle.f k 2 (([(⟨0, 1⟩ : S47), (⟨1, 0⟩ : S47)] : List (S47)))).bind fun bt167 => (if bt148.2 = 0 then ((swarfref29_Ints.f k bt148.1 (([2, 0, 1, 3] : List Int))).bind fun t174 => (if t174 = true then (if bt152.2 = 0 then ((swarfref29_Pairs.f k bt152.1 (([(⟨0, 1⟩ : S47), (⟨2, 0⟩ : S47), (⟨2, 1⟩ : S47)] : List (S47)))).bind fun t178 => (if t178 = true then (if bt159.2.2 = 0 then (if bt159.2.1 = 1 then ((swarfref29_Ints.f k bt159.1 (([2, 0, 1, 3] : List Int))).bind fun t182 => (if t182 = true then (if bt167.2 = true then ((swarfref29_Circle.f k (([(⟨0, 1⟩ : S47), (⟨1, 0⟩ : S47)] : List (S47))) bt167.1).bind fun t186 => (some t186)) else (some false)) else (some false))) else (some false)) else (some false)) else (some false))) else (some false)) else (some false))) else (some false))))))) = some r := h
 clear h
 obtain ⟨y145, hy145⟩ : ∃ y_ : List (S47), y_ = (([(⟨2, 0⟩ : S47), (⟨0, 1⟩ : S47)] : List (S47))) := ⟨_, rfl⟩
 replace H : ((precedence_Order.f k 4 y145).bind fun bt148 => ((precedence_Closure.f k 4 y145).bind fun bt152 => ((precedence_Best.f k 4 y145 (([1, 2, 1, 2] : List Int))).bind fun bt159 => ((precedence_Cycle.f k 2 (([(⟨0, 1⟩ : S47), (⟨1, 0⟩ : S47)] : List (S47)))).bind fun bt167 => (if bt148.2 = 0 then ((swarfref29_Ints.f k bt148.1 (([2, 0, 1, 3] : List Int))).bind fun t174 => (if t174 = true then (if bt152.2 = 0 then ((swarfref29_Pairs.f k bt152.1 (([(⟨0, 1⟩ : S47), (⟨2, 0⟩ : S47), (⟨2, 1⟩ : S47)] : List (S47)))).bind fun t178 => (if t178 = true then (if bt159.2.2 = 0 then (if bt159.2.1 = 1 then ((swarfref29_Ints.f k bt159.1 (([2, 0, 1, 3] : List Int))).bind fun t182 => (if t182 = true then (if bt167.2 = true then ((swarfref29_Circle.f k (([(⟨0, 1⟩ : S47), (⟨1, 0⟩ : S47)] : List (S47))) bt167.1).bind fun t186 => (some t186)) else (some false)) else (some false))) else (some false)) else (some false)) else (some false))) else (some false)) else (some false))) else (some false)))))) = some r := by first | (rw [hy145]; with_reducible exact H) | (have H2_ := (Option.bind_some _ _).symm.trans H; rw [hy145]; with_reducible exact H2_) | (have H2_ := (Option.bind_some _ _).symm.trans H; with_reducible exact H2_) | with_reducible exact H | (rw [hy145]; exact H) | exact H
 have Ny145 := aK hy145
 clear hy145
 replace H := oB_ H
 obtain ⟨⟨t148, t149⟩, A10, H⟩ := H
 replace H : ((precedence_Closure.f k 4 y145).bind fun bt152 => ((precedence_Best.f k 4 y145 (([1, 2, 1, 2] : List Int))).bind fun bt159 => ((precedence_Cycle.f k 2 (([(⟨0, 1⟩ : S47), (⟨1, 0⟩ : S47)] : List (S47)))).bind fun bt167 => (if t149 = 0 then ((swarfref29_Ints.f k t148 (([2, 0, 1, 3] : List Int))).bind fun t174 => (if t174 = true then (if bt152.2 = 0 then ((swarfref29_Pairs.f k bt152.1 (([(⟨0, 1⟩ : S47), (⟨2, 0⟩ : S47), (⟨2, 1⟩ : S47)] : List (S47)))).bind fun t178 => (if t178 = true then (if bt159.2.2 = 0 then (if bt159.2.1 = 1 then ((swarfref29_Ints.f k bt159.1 (([2, 0, 1, 3] : List Int))).bind fun t182 => (if t182 = true then (if bt167.2 = true then ((swarfref29_Circle.f k (([(⟨0, 1⟩ : S47), (⟨1, 0⟩ : S47)] : List (S47))) bt167.1).bind fun t186 => (some t186)) else (some false)) else (some false))) else (some false)) else (some false)) else (some false))) else (some false)) else (some false))) else (some false))))) = some r := H
 have A1 := aK A10
 clear A10
 replace H := oB_ H
 obtain ⟨⟨t152, t153⟩, A20, H⟩ := H
 replace H : ((precedence_Best.f k 4 y145 (([1, 2, 1, 2] : List Int))).bind fun bt159 => ((precedence_Cycle.f k 2 (([(⟨0, 1⟩ : S47), (⟨1, 0⟩ : S47)] : List (S47)))).bind fun bt167 => (if t149 = 0 then ((swarfref29_Ints.f k t148 (([2, 0, 1, 3] : List Int))).bind fun t174 => (if t174 = true then (if t153 = 0 then ((swarfref29_Pairs.f k t152 (([(⟨0, 1⟩ : S47), (⟨2, 0⟩ : S47), (⟨2, 1⟩ : S47)] : List (S47)))).bind fun t178 => (if t178 = true then (if bt159.2.2 = 0 then (if bt159.2.1 = 1 then ((swarfref29_Ints.f k bt159.1 (([2, 0, 1, 3] : List Int))).bind fun t182 => (if t182 = true then (if bt167.2 = true then ((swarfref29_Circle.f k (([(⟨0, 1⟩ : S47), (⟨1, 0⟩ : S47)] : List (S47))) bt167.1).bind fun t186 => (some t186)) else (some false)) else (some false))) else (some false)) else (some false)) else (some false))) else (some false)) else (some false))) else (some false)))) = some r := H
 have A2 := aK A20
 clear A20
 obtain ⟨y156, hy156⟩ : ∃ y_ : List Int, y_ = (([1, 2, 1, 2] : List Int)) := ⟨_, rfl⟩
 replace H : ((precedence_Best.f k 4 y145 y156).bind fun bt159 => ((precedence_Cycle.f k 2 (([(⟨0, 1⟩ : S47), (⟨1, 0⟩ : S47)] : List (S47)))).bind fun bt167 => (if t149 = 0 then ((swarfref29_Ints.f k t148 (([2, 0, 1, 3] : List Int))).bind fun t174 => (if t174 = true then (if t153 = 0 then ((swarfref29_Pairs.f k t152 (([(⟨0, 1⟩ : S47), (⟨2, 0⟩ : S47), (⟨2, 1⟩ : S47)] : List (S47)))).bind fun t178 => (if t178 = true then (if bt159.2.2 = 0 then (if bt159.2.1 = 1 then ((swarfref29_Ints.f k bt159.1 (([2, 0, 1, 3] : List Int))).bind fun t182 => (if t182 = true then (if bt167.2 = true then ((swarfref29_Circle.f k (([(⟨0, 1⟩ : S47), (⟨1, 0⟩ : S47)] : List (S47))) bt167.1).bind fun t186 => (some t186)) else (some false)) else (some false))) else (some false)) else (some false)) else (some false))) else (some false)) else (some false))) else (some false)))) = some r := by first | (rw [hy156]; with_reducible exact H) | (have H2_ := (Option.bind_some _ _).symm.trans H; rw [hy156]; with_reducible exact H2_) | (have H2_ := (Option.bind_some _ _).symm.trans H; with_reducible exact H2_) | with_reducible exact H | (rw [hy156]; exact H) | exact H
 have Ny156 := aK hy156
 clear hy156
 replace H := oB_ H
 obtain ⟨⟨t159, t160, t161⟩, A30, H⟩ := H
 replace H : ((precedence_Cycle.f k 2 (([(⟨0, 1⟩ : S47), (⟨1, 0⟩ : S47)] : List (S47)))).bind fun bt167 => (if t149 = 0 then ((swarfref29_Ints.f k t148 (([2, 0, 1, 3] : List Int))).bind fun t174 => (if t174 = true then (if t153 = 0 then ((swarfref29_Pairs.f k t152 (([(⟨0, 1⟩ : S47), (⟨2, 0⟩ : S47), (⟨2, 1⟩ : S47)] : List (S47)))).bind fun t178 => (if t178 = true then (if t161 = 0 then (if t160 = 1 then ((swarfref29_Ints.f k t159 (([2, 0, 1, 3] : List Int))).bind fun t182 => (if t182 = true then (if bt167.2 = true then ((swarfref29_Circle.f k (([(⟨0, 1⟩ : S47), (⟨1, 0⟩ : S47)] : List (S47))) bt167.1).bind fun t186 => (some t186)) else (some false)) else (some false))) else (some false)) else (some false)) else (some false))) else (some false)) else (some false))) else (some false))) = some r := H
 have A3 := aK A30
 clear A30
 obtain ⟨y164, hy164⟩ : ∃ y_ : List (S47), y_ = (([(⟨0, 1⟩ : S47), (⟨1, 0⟩ : S47)] : List (S47))) := ⟨_, rfl⟩
 replace H : ((precedence_Cycle.f k 2 y164).bind fun bt167 => (if t149 = 0 then ((swarfref29_Ints.f k t148 (([2, 0, 1, 3] : List Int))).bind fun t174 => (if t174 = true then (if t153 = 0 then ((swarfref29_Pairs.f k t152 (([(⟨0, 1⟩ : S47), (⟨2, 0⟩ : S47), (⟨2, 1⟩ : S47)] : List (S47)))).bind fun t178 => (if t178 = true then (if t161 = 0 then (if t160 = 1 then ((swarfref29_Ints.f k t159 (([2, 0, 1, 3] : List Int))).bind fun t182 => (if t182 = true then (if bt167.2 = true then ((swarfref29_Circle.f k (([(⟨0, 1⟩ : S47), (⟨1, 0⟩ : S47)] : List (S47))) bt167.1).bind fun t186 => (some t186)) else (some false)) else (some false))) else (some false)) else (some false)) else (some false))) else (some false)) else (some false))) else (some false))) = some r := by first | (rw [hy164]; with_reducible exact H) | (have H2_ := (Option.bind_some _ _).symm.trans H; rw [hy164]; with_reducible exact H2_) | (have H2_ := (Option.bind_some _ _).symm.trans H; with_reducible exact H2_) | with_reducible exact H | (rw [hy164]; exact H) | exact H
 have Ny164 := aK hy164
 clear hy164
 replace H := oB_ H
 obtain ⟨⟨t167, t168⟩, A40, H⟩ := H
 replace H : (if t149 = 0 then ((swarfref29_Ints.f k t148 (([2, 0, 1, 3] : List Int))).bind fun t174 => (if t174 = true then (if t153 = 0 then ((swarfref29_Pairs.f k t152 (([(⟨0, 1⟩ : S47), (⟨2, 0⟩ : S47), (⟨2, 1⟩ : S47)] : List (S47)))).bind fun t178 => (if t178 = true then (if t161 = 0 then (if t160 = 1 then ((swarfref29_Ints.f k t159 (([2, 0, 1, 3] : List Int))).bind fun t182 => (if t182 = true then (if t168 = true then ((swarfref29_Circle.f k (([(⟨0, 1⟩ : S47), (⟨1, 0⟩ : S47)] : List (S47))) t167).bind fun t186 => (some t186)) else (some false)) else (some false))) else (some false)) else (some false)) else (some false))) else (some false)) else (some false))) else (some false)) = some r := H
 have A4 := aK A40
 clear A40
 by_cases c5 : t149 = 0
 ·rw [if_pos c5] at H
  have c5b0 : (t149 == 0) = true := beq_iff_eq.mpr c5
  have c5b1 : (t149 != 0) = false := bne_eq_false_iff_eq.mpr c5
  clear c5
  obtain ⟨y171, hy171⟩ : ∃ y_ : List Int, y_ = (([2, 0, 1, 3] : List Int)) := ⟨_, rfl⟩
  replace H : ((swarfref29_Ints.f k t148 y171).bind fun t174 => (if t174 = true then (if t153 = 0 then ((swarfref29_Pairs.f k t152 (([(⟨0, 1⟩ : S47), (⟨2, 0⟩ : S47), (⟨2, 1⟩ : S47)] : List (S47)))).bind fun t178 => (if t178 = true then (if t161 = 0 then (if t160 = 1 then ((swarfref29_Ints.f k t159 (([2, 0, 1, 3] : List Int))).bind fun t182 => (if t182 = true then (if t168 = true then ((swarfref29_Circle.f k (([(⟨0, 1⟩ : S47), (⟨1, 0⟩ : S47)] : List (S47))) t167).bind fun t186 => (some t186)) else (some false)) else (some false))) else (some false)) else (some false)) else (some false))) else (some false)) else (some false))) = some r := by first | (rw [hy171]; with_reducible exact H) | (have H2_ := (Option.bind_some _ _).symm.trans H; rw [hy171]; with_reducible exact H2_) | (have H2_ := (Option.bind_some _ _).symm.trans H; with_reducible exact H2_) | with_reducible exact H | (rw [hy171]; exact H) | exact H
  have Ny171 := aK hy171; clear hy171; replace H := oB_ H
  obtain ⟨t174, A60, H⟩ := H
  replace H : (if t174 = true then (if t153 = 0 then ((swarfref29_Pairs.f k t152 (([(⟨0, 1⟩ : S47), (⟨2, 0⟩ : S47), (⟨2, 1⟩ : S47)] : List (S47)))).bind fun t178 => (if t178 = true then (if t161 = 0 then (if t160 = 1 then ((swarfref29_Ints.f k t159 (([2, 0, 1, 3] : List Int))).bind fun t182 => (if t182 = true then (if t168 = true then ((swarfref29_Circle.f k (([(⟨0, 1⟩ : S47), (⟨1, 0⟩ : S47)] : List (S47))) t167).bind fun t186 => (some t186)) else (some false)) else (some false))) else (some false)) else (some false)) else (some false))) else (some false)) else (some false)) = some r := H
  have A6 := aK A60; clear A60
  by_cases c7 : t174 = true
  ·subst c7
   have H1 : (if t153 = 0 then ((swarfref29_Pairs.f k t152 (([(⟨0, 1⟩ : S47), (⟨2, 0⟩ : S47), (⟨2, 1⟩ : S47)] : List (S47)))).bind fun t178 => (if t178 = true then (if t161 = 0 then (if t160 = 1 then ((swarfref29_Ints.f k t159 (([2, 0, 1, 3] : List Int))).bind fun t182 => (if t182 = true then (if t168 = true then ((swarfref29_Circle.f k (([(⟨0, 1⟩ : S47), (⟨1, 0⟩ : S47)] : List (S47))) t167).bind fun t186 => (some t186)) else (some false)) else (some false))) else (some false)) else (some false)) else (some false))) else (some false)) = some r := by rw [if_pos rfl] at H; exact H
   clear H; have H := H1; clear H1
   by_cases c8 : t153 = 0
   ·rw [if_pos c8] at H
    have c8b0 : (t153 == 0) = true := beq_iff_eq.mpr c8
    have c8b1 : (t153 != 0) = false := bne_eq_false_iff_eq.mpr c8
    clear c8
    obtain ⟨y175, hy175⟩ : ∃ y_ : List (S47), y_ = (([(⟨0, 1⟩ : S47), (⟨2, 0⟩ : S47), (⟨2, 1⟩ : S47)] : List (S47))) := ⟨_, rfl⟩
    replace H : ((swarfref29_Pairs.f k t152 y175).bind fun t178 => (if t178 = true then (if t161 = 0 then (if t160 = 1 then ((swarfref29_Ints.f k t159 (([2, 0, 1, 3] : List Int))).bind fun t182 => (if t182 = true then (if t168 = true then ((swarfref29_Circle.f k (([(⟨0, 1⟩ : S47), (⟨1, 0⟩ : S47)] : List (S47))) t167).bind fun t186 => (some t186)) else (some false)) else (some false))) else (some false)) else (some false)) else (some false))) = some r := by first | (rw [hy175]; with_reducible exact H) | (have H2_ := (Option.bind_some _ _).symm.trans H; rw [hy175]; with_reducible exact H2_) | (have H2_ := (Option.bind_some _ _).symm.trans H; with_reducible exact H2_) | with_reducible exact H | (rw [hy175]; exact H) | exact H
    have Ny175 := aK hy175; clear hy175; replace H := oB_ H
    obtain ⟨t178, A90, H⟩ := H
    replace H : (if t178 = true then (if t161 = 0 then (if t160 = 1 then ((swarfref29_Ints.f k t159 (([2, 0, 1, 3] : List Int))).bind fun t182 => (if t182 = true then (if t168 = true then ((swarfref29_Circle.f k (([(⟨0, 1⟩ : S47), (⟨1, 0⟩ : S47)] : List (S47))) t167).bind fun t186 => (some t186)) else (some false)) else (some false))) else (some false)) else (some false)) else (some false)) = some r := H
    have A9 := aK A90; clear A90
    by_cases c10 : t178 = true
    ·subst c10
     have H1 : (if t161 = 0 then (if t160 = 1 then ((swarfref29_Ints.f k t159 (([2, 0, 1, 3] : List Int))).bind fun t182 => (if t182 = true then (if t168 = true then ((swarfref29_Circle.f k (([(⟨0, 1⟩ : S47), (⟨1, 0⟩ : S47)] : List (S47))) t167).bind fun t186 => (some t186)) else (some false)) else (some false))) else (some false)) else (some false)) = some r := by rw [if_pos rfl] at H; exact H
     clear H; have H := H1; clear H1
     by_cases c11 : t161 = 0
     ·rw [if_pos c11] at H
      have c11b0 : (t161 == 0) = true := beq_iff_eq.mpr c11
      have c11b1 : (t161 != 0) = false := bne_eq_false_iff_eq.mpr c11
      clear c11
      by_cases c12 : t160 = 1
      ·rw [if_pos c12] at H
       have c12b0 : (t160 == 1) = true := beq_iff_eq.mpr c12
       have c12b1 : (t160 != 1) = false := bne_eq_false_iff_eq.mpr c12
       clear c12
       obtain ⟨y179, hy179⟩ : ∃ y_ : List Int, y_ = (([2, 0, 1, 3] : List Int)) := ⟨_, rfl⟩
       replace H : ((swarfref29_Ints.f k t159 y179).bind fun t182 => (if t182 = true then (if t168 = true then ((swarfref29_Circle.f k (([(⟨0, 1⟩ : S47), (⟨1, 0⟩ : S47)] : List (S47))) t167).bind fun t186 => (some t186)) else (some false)) else (some false))) = some r := by first | (rw [hy179]; with_reducible exact H) | (have H2_ := (Option.bind_some _ _).symm.trans H; rw [hy179]; with_reducible exact H2_) | (have H2_ := (Option.bind_some _ _).symm.trans H; with_reducible exact H2_) | with_reducible exact H | (rw [hy179]; exact H) | exact H
       have Ny179 := aK hy179; clear hy179; replace H := oB_ H
       obtain ⟨t182, A130, H⟩ := H
       replace H : (if t182 = true then (if t168 = true then ((swarfref29_Circle.f k (([(⟨0, 1⟩ : S47), (⟨1, 0⟩ : S47)] : List (S47))) t167).bind fun t186 => (some t186)) else (some false)) else (some false)) = some r := H
       have A13 := aK A130; clear A130
       by_cases c14 : t182 = true
       ·subst c14
        have H1 : (if t168 = true then ((swarfref29_Circle.f k (([(⟨0, 1⟩ : S47), (⟨1, 0⟩ : S47)] : List (S47))) t167).bind fun t186 => (some t186)) else (some false)) = some r := by rw [if_pos rfl] at H; exact H
        clear H; have H := H1; clear H1
        by_cases c15 : t168 = true
        ·subst c15
         have H1 : ((swarfref29_Circle.f k (([(⟨0, 1⟩ : S47), (⟨1, 0⟩ : S47)] : List (S47))) t167).bind fun t186 => (some t186)) = some r := by rw [if_pos rfl] at H; exact H
         clear H; have H := H1; clear H1
         obtain ⟨y183, hy183⟩ : ∃ y_ : List (S47), y_ = (([(⟨0, 1⟩ : S47), (⟨1, 0⟩ : S47)] : List (S47))) := ⟨_, rfl⟩
         replace H : ((swarfref29_Circle.f k y183 t167).bind fun t186 => (some t186)) = some r := by first | (rw [hy183]; with_reducible exact H) | (have H2_ := (Option.bind_some _ _).symm.trans H; rw [hy183]; with_reducible exact H2_) | (have H2_ := (Option.bind_some _ _).symm.trans H; with_reducible exact H2_) | with_reducible exact H | (rw [hy183]; exact H) | exact H
         have Ny183 := aK hy183; clear hy183; replace H := oB_ H
         obtain ⟨t186, A160, H⟩ := H
         replace H : (some t186) = some r := H
         have A16 := aK A160; clear A160; obtain rfl := Option.some.inj H
         go_enter Try.func12, Try.ntmps12
         go_wp2_with (first | ((with_reducible refine gate_dst (N := 13) rfl ?_); (try (refine gate_guard (by rfl) ?_; dsimp only)); refine Kd.R_lit k47 _ 47 ?hg (N := 13) ?hd (xs := ([(⟨2, 0⟩ : S47), (⟨0, 1⟩ : S47)] : List (S47))) (inner := [.int .i64 2, .int .i64 0, .int .i64 0, .int .i64 1]) (ok := fun _ => True) (okp := fun _ => True) ?hr ?hp (fun _ hk => hk) trivial (Below.refl _ _) (Nat.le_refl _) (by simp) ?_; (case hd => rfl); (case hg => rfl); (case hr => first | (go_simp; done) | (go_simp; rfl)); (case hp => exact (Reps.c2 (show Kd.M k47 _ _ _ (⟨2, 0⟩ : S47) [.int .i64 2, .int .i64 0] from (k47_mkM _ _ _ (⟨2, 0⟩ : S47) )) (Reps.c2 (show Kd.M k47 _ _ _ (⟨0, 1⟩ : S47) [.int .i64 0, .int .i64 1] from (k47_mkM _ _ _ (⟨0, 1⟩ : S47) )) (Reps.none _ _)))); intro v146 w17 ho18 hb hg_ hnew_; clear hg_ hnew_; (first | rw [← Ny145.out] at ho18 | (simp only [Int.reduceToNat] at ho18; rw [← Ny145.out] at ho18)); have n0_ := aK (Kd.R_lower ho18 (bZ_ (by repeat (first | (with_reducible first | exact HB.out | apply bA_ | apply bN_ | apply bD_) | exact HB.out)))); have n1_ := aK (bT_ (by repeat (first | (with_reducible first | exact HB.out | apply bA_ | apply bN_ | apply bD_) | exact HB.out)) hb); clear HB; have HO147 := n0_; have HB := n1_; clear n0_ n1_; clear hb ho18; obtain ⟨Ao19, co19, eo19⟩ := Kd.R_slice HO147.out; subst eo19) | ((with_reducible refine gate_callee (f := 25) rfl ?_); refine goesL_ (some 16) rfl rfl Try.func25 (by kernel_rfl) rfl #[.int .i64 4, .slice Ao19 y145.length co19] rfl (by (try simp only [List.map_toArray, List.map_cons, List.map_nil]); first | done | rfl | (simp only [List.length_drop, List.length_take]; rfl)) ?_; (with_reducible refine (precedence_Order.calls k 4 _ _ y145 t148 t149 _ ?side1 ?side2 A1.out).mono ?_); (case side1 => repeat (first | exact (Kd.R_reads' HO147.out).2.2 | (with_reducible refine Kd.C_alloc ?_ _) | (with_reducible refine Kd.C_drewN ?_ _) | (with_reducible refine Kd.C_drew ?_))); (case side2 => exact (Kd.R_reads' HO147.out).2.1); rintro e w20 ⟨v150, rfl, ho0, hb⟩; refine ⟨_, rfl, ?_⟩; have n0_ := aK (Kd.R_below (by (with_reducible repeat (first | apply Kd.R_alloc | apply Kd.R_drewN | apply Kd.R_drew)); exact HO147.out) hb); have n1_ := aK (Kd.R_lower ho0 (bZ_ (by repeat (first | (with_reducible first | exact HB.out | apply bA_ | apply bN_ | apply bD_) | exact HB.out)))); have n2_ := aK (bT_ (by repeat (first | (with_reducible first | exact HB.out | apply bA_ | apply bN_ | apply bD_) | exact HB.out)) hb); clear HO147; clear HB; have HO147 := n0_; have HO151 := n1_; have HB := n2_; clear n0_ n1_ n2_; (try clear hb); (try clear hb2); (try clear hk); (try clear hi); (try clear ho0)) | ((with_reducible refine gate_callee (f := 16) rfl ?_); refine goesL_ (some 21) rfl rfl Try.func16 (by kernel_rfl) rfl #[.int .i64 4, .slice Ao19 y145.length co19] rfl (by (try simp only [List.map_toArray, List.map_cons, List.map_nil]); first | done | rfl | (simp only [List.length_drop, List.length_take]; rfl)) ?_; (with_reducible refine (precedence_Closure.calls k 4 _ _ y145 t152 t153 _ ?side1 ?side2 A2.out).mono ?_); (case side1 => repeat (first | exact (Kd.R_reads' HO147.out).2.2 | (with_reducible refine Kd.C_alloc ?_ _) | (with_reducible refine Kd.C_drewN ?_ _) | (with_reducible refine Kd.C_drew ?_))); (case side2 => exact (Kd.R_reads' HO147.out).2.1); rintro e w21 ⟨v154, rfl, ho0, hb⟩; refine ⟨_, rfl, ?_⟩; have n0_ := aK (Kd.R_elder' (by (with_reducible repeat (first | apply Kd.R_alloc | apply Kd.R_drewN | apply Kd.R_drew)); exact HO147.out) (Kd.R_base ho0) hb); have n1_ := aK (Kd.R_below (by (with_reducible repeat (first | apply Kd.R_alloc | apply Kd.R_drewN | apply Kd.R_drew)); exact HO151.out) hb); have n2_ := aK (Kd.R_lower (Kd.R_new' ho0 (Kd.R_lt (by (with_reducible repeat (first | apply Kd.R_alloc | apply Kd.R_drewN | apply Kd.R_drew)); exact HO147.out))) (bZ_ (by repeat (first | (with_reducible first | exact HB.out | apply bA_ | apply bN_ | apply bD_) | exact HB.out)))); have n3_ := aK (bT_ (by repeat (first | (with_reducible first | exact HB.out | apply bA_ | apply bN_ | apply bD_) | exact HB.out)) hb); clear HO147; clear HO151; clear HB; have HO147 := n0_; have HO151 := n1_; have HO155 := n2_; have HB := n3_; clear n0_ n1_ n2_ n3_; (try clear hb); (try clear hb2); (try clear hk); (try clear hi); (try clear ho0)) | ((with_reducible refine gate_dst (N := 26) rfl ?_); (try (refine gate_guard (by rfl) ?_; dsimp only)); refine Kd.R_lit (Kd.int .i64) _ 3 ?hg (N := 26) ?hd (xs := ([1, 2, 1, 2] : List Int)) (inner := [.int .i64 1, .int .i64 2, .int .i64 1, .int .i64 2]) (ok := fun _ => True) (okp := fun _ => True) ?hr ?hp (fun _ hk => hk) trivial (Below.refl _ _) (Nat.le_refl _) (by simp) ?_; (case hd => rfl); (case hg => rfl); (case hr => first | (go_simp; done) | (go_simp; rfl)); (case hp => exact (Reps.one (show Kd.M (Kd.int .i64) _ _ _ 1 [.int .i64 1] from rfl) (Reps.one (show Kd.M (Kd.int .i64) _ _ _ 2 [.int .i64 2] from rfl) (Reps.one (show Kd.M (Kd.int .i64) _ _ _ 1 [.int .i64 1] from rfl) (Reps.one (show Kd.M (Kd.int .i64) _ _ _ 2 [.int .i64 2] from rfl) (Reps.none _ _)))))); intro v157 w22 ho23 hb hg_ hnew_; clear hg_ hnew_; (first | rw [← Ny156.out] at ho23 | (simp only [Int.reduceToNat] at ho23; rw [← Ny156.out] at ho23)); have n0_ := aK (Kd.R_below (by (with_reducible repeat (first | apply Kd.R_alloc | apply Kd.R_drewN | apply Kd.R_drew)); exact HO147.out) hb); have n1_ := aK (Kd.R_elder' (by (with_reducible repeat (first | apply Kd.R_alloc | apply Kd.R_drewN | apply Kd.R_drew)); exact HO151.out) (Kd.R_base ho23) hb); have n2_ := aK (Kd.R_below (by (with_reducible repeat (first | apply Kd.R_alloc | apply Kd.R_drewN | apply Kd.R_drew)); exact HO155.out) hb); have n3_ := aK (Kd.R_lower (Kd.R_new' ho23 (Kd.R_lt (by (with_reducible repeat (first | apply Kd.R_alloc | apply Kd.R_drewN | apply Kd.R_drew)); exact HO151.out))) (bZ_ (by repeat (first | (with_reducible first | exact HB.out | apply bA_ | apply bN_ | apply bD_) | exact HB.out)))); have n4_ := aK (bT_ (by repeat (first | (with_reducible first | exact HB.out | apply bA_ | apply bN_ | apply bD_) | exact HB.out)) hb); clear HO147; clear HO151; clear HO155; clear HB; have HO147 := n0_; have HO151 := n1_; have HO155 := n2_; have HO158 := n3_; have HB := n4_; clear n0_ n1_ n2_ n3_ n4_; clear hb ho23; obtain ⟨Ao24, co24, eo24⟩ := Kd.R_slice HO158.out; subst eo24) | ((with_reducible refine gate_callee (f := 28) rfl ?_); refine goesL_ (some 27) rfl rfl Try.func28 (by kernel_rfl) rfl #[.int .i64 4, .slice Ao19 y145.length co19, .slice Ao24 y156.length co24] rfl (by (try simp only [List.map_toArray, List.map_cons, List.map_nil]); first | done | rfl | (simp only [List.length_drop, List.length_take]; rfl)) ?_; (with_reducible refine (precedence_Best.calls k 4 _ _ y145 _ _ y156 t159 t160 t161 _ ?side1 ?side2 ?side3 ?side4 A3.out).mono ?_); (case side1 => repeat (first | exact (Kd.R_reads' HO147.out).2.2 | (with_reducible refine Kd.C_alloc ?_ _) | (with_reducible refine Kd.C_drewN ?_ _) | (with_reducible refine Kd.C_drew ?_))); (case side2 => exact (Kd.R_reads' HO147.out).2.1); (case side3 => repeat (first | exact (Kd.R_reads' HO158.out).2.2 | (with_reducible refine Kd.C_alloc ?_ _) | (with_reducible refine Kd.C_drewN ?_ _) | (with_reducible refine Kd.C_drew ?_))); (case side4 => exact (Kd.R_reads' HO158.out).2.1); rintro e w25 ⟨v162, rfl, ho0, hb⟩; refine ⟨_, rfl, ?_⟩; have n0_ := aK (Kd.R_below (by (with_reducible repeat (first | apply Kd.R_alloc | apply Kd.R_drewN | apply Kd.R_drew)); exact HO147.out) hb); have n1_ := aK (Kd.R_elder' (by (with_reducible repeat (first | apply Kd.R_alloc | apply Kd.R_drewN | apply Kd.R_drew)); exact HO151.out) (Kd.R_base ho0) hb); have n2_ := aK (Kd.R_below (by (with_reducible repeat (first | apply Kd.R_alloc | apply Kd.R_drewN | apply Kd.R_drew)); exact HO155.out) hb); have n3_ := aK (Kd.R_elder' (by (with_reducible repeat (first | apply Kd.R_alloc | apply Kd.R_drewN | apply Kd.R_drew)); exact HO158.out) (Kd.R_base ho0) hb); have n4_ := aK (Kd.R_lower (Kd.R_new' (Kd.R_new' ho0 (Kd.R_lt (by (with_reducible repeat (first | apply Kd.R_alloc | apply Kd.R_drewN | apply Kd.R_drew)); exact HO151.out))) (Kd.R_lt (by (with_reducible repeat (first | apply Kd.R_alloc | apply Kd.R_drewN | apply Kd.R_drew)); exact HO158.out))) (bZ_ (by repeat (first | (with_reducible first | exact HB.out | apply bA_ | apply bN_ | apply bD_) | exact HB.out)))); have n5_ := aK (bT_ (by repeat (first | (with_reducible first | exact HB.out | apply bA_ | apply bN_ | apply bD_) | exact HB.out)) hb); clear HO147; clear HO151; clear HO155; clear HO158; clear HB; have HO147 := n0_; have HO151 := n1_; have HO155 := n2_; have HO158 := n3_; have HO163 := n4_; have HB := n5_; clear n0_ n1_ n2_ n3_ n4_ n5_; (try clear hb); (try clear hb2); (try clear hk); (try clear hi); (try clear ho0)) | ((with_reducible refine gate_dst (N := 34) rfl ?_); (try (refine gate_guard (by rfl) ?_; dsimp only)); refine Kd.R_lit k47 _ 47 ?hg (N := 34) ?hd (xs := ([(⟨0, 1⟩ : S47), (⟨1, 0⟩ : S47)] : List (S47))) (inner := [.int .i64 0, .int .i64 1, .int .i64 1, .int .i64 0]) (ok := fun _ => True) (okp := fun _ => True) ?hr ?hp (fun _ hk => hk) trivial (Below.refl _ _) (Nat.le_refl _) (by simp) ?_; (case hd => rfl); (case hg => rfl); (case hr => first | (go_simp; done) | (go_simp; rfl)); (case hp => exact (Reps.c2 (show Kd.M k47 _ _ _ (⟨0, 1⟩ : S47) [.int .i64 0, .int .i64 1] from (k47_mkM _ _ _ (⟨0, 1⟩ : S47) )) (Reps.c2 (show Kd.M k47 _ _ _ (⟨1, 0⟩ : S47) [.int .i64 1, .int .i64 0] from (k47_mkM _ _ _ (⟨1, 0⟩ : S47) )) (Reps.none _ _)))); intro v165 w26 ho27 hb hg_ hnew_; clear hg_ hnew_; (first | rw [← Ny164.out] at ho27 | (simp only [Int.reduceToNat] at ho27; rw [← Ny164.out] at ho27)); have n0_ := aK (Kd.R_elder' (by (with_reducible repeat (first | apply Kd.R_alloc | apply Kd.R_drewN | apply Kd.R_drew)); exact HO147.out) (Kd.R_base ho27) hb); have n1_ := aK (Kd.R_below (by (with_reducible repeat (first | apply Kd.R_alloc | apply Kd.R_drewN | apply Kd.R_drew)); exact HO151.out) hb); have n2_ := aK (Kd.R_elder' (by (with_reducible repeat (first | apply Kd.R_alloc | apply Kd.R_drewN | apply Kd.R_drew)); exact HO155.out) (Kd.R_base ho27) hb); have n3_ := aK (Kd.R_below (by (with_reducible repeat (first | apply Kd.R_alloc | apply Kd.R_drewN | apply Kd.R_drew)); exact HO158.out) hb); have n4_ := aK (Kd.R_below (by (with_reducible repeat (first | apply Kd.R_alloc | apply Kd.R_drewN | apply Kd.R_drew)); exact HO163.out) hb); have n5_ := aK (Kd.R_lower (Kd.R_new' (Kd.R_new' ho27 (Kd.R_lt (by (with_reducible repeat (first | apply Kd.R_alloc | apply Kd.R_drewN | apply Kd.R_drew)); exact HO147.out))) (Kd.R_lt (by (with_reducible repeat (first | apply Kd.R_alloc | apply Kd.R_drewN | apply Kd.R_drew)); exact HO155.out))) (bZ_ (by repeat (first | (with_reducible first | exact HB.out | apply bA_ | apply bN_ | apply bD_) | exact HB.out)))); have n6_ := aK (bT_ (by repeat (first | (with_reducible first | exact HB.out | apply bA_ | apply bN_ | apply bD_) | exact HB.out)) hb); clear HO147; clear HO151; clear HO155; clear HO158; clear HO163; clear HB; have HO147 := n0_; have HO151 := n1_; have HO155 := n2_; have HO158 := n3_; have HO163 := n4_; have HO166 := n5_; have HB := n6_; clear n0_ n1_ n2_ n3_ n4_ n5_ n6_; clear hb ho27; obtain ⟨Ao28, co28, eo28⟩ := Kd.R_slice HO166.out; subst eo28) | ((with_reducible refine gate_callee (f := 22) rfl ?_); refine goesL_ (some 35) rfl rfl Try.func22 (by kernel_rfl) rfl #[.int .i64 2, .slice Ao28 y164.length co28] rfl (by (try simp only [List.map_toArray, List.map_cons, List.map_nil]); first | done | rfl | (simp only [List.length_drop, List.length_take]; rfl)) ?_; (with_reducible refine (precedence_Cycle.calls k 2 _ _ y164 t167 true _ ?side1 ?side2 A4.out).mono ?_); (case side1 => repeat (first | exact (Kd.R_reads' HO166.out).2.2 | (with_reducible refine Kd.C_alloc ?_ _) | (with_reducible refine Kd.C_drewN ?_ _) | (with_reducible refine Kd.C_drew ?_))); (case side2 => exact (Kd.R_reads' HO166.out).2.1); rintro e w29 ⟨v169, rfl, ho0, hb⟩; refine ⟨_, rfl, ?_⟩; have n0_ := aK (Kd.R_below (by (with_reducible repeat (first | apply Kd.R_alloc | apply Kd.R_drewN | apply Kd.R_drew)); exact HO147.out) hb); have n1_ := aK (Kd.R_elder' (by (with_reducible repeat (first | apply Kd.R_alloc | apply Kd.R_drewN | apply Kd.R_drew)); exact HO151.out) (Kd.R_base ho0) hb); have n2_ := aK (Kd.R_below (by (with_reducible repeat (first | apply Kd.R_alloc | apply Kd.R_drewN | apply Kd.R_drew)); exact HO155.out) hb); have n3_ := aK (Kd.R_elder' (by (with_reducible repeat (first | apply Kd.R_alloc | apply Kd.R_drewN | apply Kd.R_drew)); exact HO158.out) (Kd.R_base ho0) hb); have n4_ := aK (Kd.R_elder' (by (with_reducible repeat (first | apply Kd.R_alloc | apply Kd.R_drewN | apply Kd.R_drew)); exact HO163.out) (Kd.R_base ho0) hb); have n5_ := aK (Kd.R_below (by (with_reducible repeat (first | apply Kd.R_alloc | apply Kd.R_drewN | apply Kd.R_drew)); exact HO166.out) hb); have n6_ := aK (Kd.R_lower (Kd.R_new' (Kd.R_new' (Kd.R_new' ho0 (Kd.R_lt (by (with_reducible repeat (first | apply Kd.R_alloc | apply Kd.R_drewN | apply Kd.R_drew)); exact HO151.out))) (Kd.R_lt (by (with_reducible repeat (first | apply Kd.R_alloc | apply Kd.R_drewN | apply Kd.R_drew)); exact HO158.out))) (Kd.R_lt (by (with_reducible repeat (first | apply Kd.R_alloc | apply Kd.R_drewN | apply Kd.R_drew)); exact HO163.out))) (bZ_ (by repeat (first | (with_reducible first | exact HB.out | apply bA_ | apply bN_ | apply bD_) | exact HB.out)))); have n7_ := aK (bT_ (by repeat (first | (with_reducible first | exact HB.out | apply bA_ | apply bN_ | apply bD_) | exact HB.out)) hb); clear HO147; clear HO151; clear HO155; clear HO158; clear HO163; clear HO166; clear HB; have HO147 := n0_; have HO151 := n1_; have HO155 := n2_; have HO158 := n3_; have HO163 := n4_; have HO166 := n5_; have HO170 := n6_; have HB := n7_; clear n0_ n1_ n2_ n3_ n4_ n5_ n6_ n7_; (try clear hb); (try clear hb2); (try clear hk); (try clear hi); (try clear ho0)) | ((with_reducible refine gate_dst (N := 42) rfl ?_); (try (refine gate_guard (by rfl) ?_; dsimp only)); refine Kd.R_lit (Kd.int .i64) _ 3 ?hg (N := 42) ?hd (xs := ([2, 0, 1, 3] : List Int)) (inner := [.int .i64 2, .int .i64 0, .int .i64 1, .int .i64 3]) (ok := fun _ => True) (okp := fun _ => True) ?hr ?hp (fun _ hk => hk) trivial (Below.refl _ _) (Nat.le_refl _) (by simp) ?_; (case hd => rfl); (case hg => rfl); (case hr => first | (go_simp; done) | (go_simp; rfl)); (case hp => exact (Reps.one (show Kd.M (Kd.int .i64) _ _ _ 2 [.int .i64 2] from rfl) (Reps.one (show Kd.M (Kd.int .i64) _ _ _ 0 [.int .i64 0] from rfl) (Reps.one (show Kd.M (Kd.int .i64) _ _ _ 1 [.int .i64 1] from rfl) (Reps.one (show Kd.M (Kd.int .i64) _ _ _ 3 [.int .i64 3] from rfl) (Reps.none _ _)))))); intro v172 w30 ho31 hb hg_ hnew_; clear hg_ hnew_; (first | rw [← Ny171.out] at ho31 | (simp only [Int.reduceToNat] at ho31; rw [← Ny171.out] at ho31)); have n0_ := aK (Kd.R_below (by (with_reducible repeat (first | apply Kd.R_alloc | apply Kd.R_drewN | apply Kd.R_drew)); exact HO147.out) hb); have n1_ := aK (Kd.R_elder' (by (with_reducible repeat (first | apply Kd.R_alloc | apply Kd.R_drewN | apply Kd.R_drew)); exact HO151.out) (Kd.R_base ho31) hb); have n2_ := aK (Kd.R_below (by (with_reducible repeat (first | apply Kd.R_alloc | apply Kd.R_drewN | apply Kd.R_drew)); exact HO155.out) hb); have n3_ := aK (Kd.R_elder' (by (with_reducible repeat (first | apply Kd.R_alloc | apply Kd.R_drewN | apply Kd.R_drew)); exact HO158.out) (Kd.R_base ho31) hb); have n4_ := aK (Kd.R_elder' (by (with_reducible repeat (first | apply Kd.R_alloc | apply Kd.R_drewN | apply Kd.R_drew)); exact HO163.out) (Kd.R_base ho31) hb); have n5_ := aK (Kd.R_below (by (with_reducible repeat (first | apply Kd.R_alloc | apply Kd.R_drewN | apply Kd.R_drew)); exact HO166.out) hb); have n6_ := aK (Kd.R_elder' (by (with_reducible repeat (first | apply Kd.R_alloc | apply Kd.R_drewN | apply Kd.R_drew)); exact HO170.out) (Kd.R_base ho31) hb); have n7_ := aK (Kd.R_lower (Kd.R_new' (Kd.R_new' (Kd.R_new' (Kd.R_new' ho31 (Kd.R_lt (by (with_reducible repeat (first | apply Kd.R_alloc | apply Kd.R_drewN | apply Kd.R_drew)); exact HO151.out))) (Kd.R_lt (by (with_reducible repeat (first | apply Kd.R_alloc | apply Kd.R_drewN | apply Kd.R_drew)); exact HO158.out))) (Kd.R_lt (by (with_reducible repeat (first | apply Kd.R_alloc | apply Kd.R_drewN | apply Kd.R_drew)); exact HO163.out))) (Kd.R_lt (by (with_reducible repeat (first | apply Kd.R_alloc | apply Kd.R_drewN | apply Kd.R_drew)); exact HO170.out))) (bZ_ (by repeat (first | (with_reducible first | exact HB.out | apply bA_ | apply bN_ | apply bD_) | exact HB.out)))); have n8_ := aK (bT_ (by repeat (first | (with_reducible first | exact HB.out | apply bA_ | apply bN_ | apply bD_) | exact HB.out)) hb); clear HO147; clear HO151; clear HO155; clear HO158; clear HO163; clear HO166; clear HO170; clear HB; have HO147 := n0_; have HO151 := n1_; have HO155 := n2_; have HO158 := n3_; have HO163 := n4_; have HO166 := n5_; have HO170 := n6_; have HO173 := n7_; have HB := n8_; clear n0_ n1_ n2_ n3_ n4_ n5_ n6_ n7_ n8_; clear hb ho31; obtain ⟨Ao32, co32, eo32⟩ := Kd.R_slice HO151.out; subst eo32; obtain ⟨Ao33, co33, eo33⟩ := Kd.R_slice HO173.out; subst eo33) | (go_at_call 27; (with_reducible refine (swarfref29_Ints.calls k _ _ t148 _ _ y171 true _ ?side1 ?side2 ?side3 ?side4 A6.out).mono ?_); (case side1 => repeat (first | exact (Kd.R_reads' HO151.out).2.2 | (with_reducible refine Kd.C_alloc ?_ _) | (with_reducible refine Kd.C_drewN ?_ _) | (with_reducible refine Kd.C_drew ?_))); (case side2 => exact (Kd.R_reads' HO151.out).2.1); (case side3 => repeat (first | exact (Kd.R_reads' HO173.out).2.2 | (with_reducible refine Kd.C_alloc ?_ _) | (with_reducible refine Kd.C_drewN ?_ _) | (with_reducible refine Kd.C_drew ?_))); (case side4 => exact (Kd.R_reads' HO173.out).2.1); rintro e w' ⟨rfl, ⟨nd, rfl⟩⟩) | ((with_reducible refine gate_dst (N := 54) rfl ?_); (try (refine gate_guard (by rfl) ?_; dsimp only)); refine Kd.R_lit k47 _ 47 ?hg (N := 54) ?hd (xs := ([(⟨0, 1⟩ : S47), (⟨2, 0⟩ : S47), (⟨2, 1⟩ : S47)] : List (S47))) (inner := [.int .i64 0, .int .i64 1, .int .i64 2, .int .i64 0, .int .i64 2, .int .i64 1]) (ok := fun _ => True) (okp := fun _ => True) ?hr ?hp (fun _ hk => hk) trivial (Below.refl _ _) (Nat.le_refl _) (by simp) ?_; (case hd => rfl); (case hg => rfl); (case hr => first | (go_simp; done) | (go_simp; rfl)); (case hp => exact (Reps.c2 (show Kd.M k47 _ _ _ (⟨0, 1⟩ : S47) [.int .i64 0, .int .i64 1] from (k47_mkM _ _ _ (⟨0, 1⟩ : S47) )) (Reps.c2 (show Kd.M k47 _ _ _ (⟨2, 0⟩ : S47) [.int .i64 2, .int .i64 0] from (k47_mkM _ _ _ (⟨2, 0⟩ : S47) )) (Reps.c2 (show Kd.M k47 _ _ _ (⟨2, 1⟩ : S47) [.int .i64 2, .int .i64 1] from (k47_mkM _ _ _ (⟨2, 1⟩ : S47) )) (Reps.none _ _))))); intro v176 w34 ho35 hb hg_ hnew_; clear hg_ hnew_; (first | rw [← Ny175.out] at ho35 | (simp only [Int.reduceToNat] at ho35; rw [← Ny175.out] at ho35)); have n0_ := aK (Kd.R_elder' (by (with_reducible repeat (first | apply Kd.R_alloc | apply Kd.R_drewN | apply Kd.R_drew)); exact HO147.out) (Kd.R_base ho35) hb); have n1_ := aK (Kd.R_below (by (with_reducible repeat (first | apply Kd.R_alloc | apply Kd.R_drewN | apply Kd.R_drew)); exact HO151.out) hb); have n2_ := aK (Kd.R_elder' (by (with_reducible repeat (first | apply Kd.R_alloc | apply Kd.R_drewN | apply Kd.R_drew)); exact HO155.out) (Kd.R_base ho35) hb); have n3_ := aK (Kd.R_below (by (with_reducible repeat (first | apply Kd.R_alloc | apply Kd.R_drewN | apply Kd.R_drew)); exact HO158.out) hb); have n4_ := aK (Kd.R_below (by (with_reducible repeat (first | apply Kd.R_alloc | apply Kd.R_drewN | apply Kd.R_drew)); exact HO163.out) hb); have n5_ := aK (Kd.R_elder' (by (with_reducible repeat (first | apply Kd.R_alloc | apply Kd.R_drewN | apply Kd.R_drew)); exact HO166.out) (Kd.R_base ho35) hb); have n6_ := aK (Kd.R_below (by (with_reducible repeat (first | apply Kd.R_alloc | apply Kd.R_drewN | apply Kd.R_drew)); exact HO170.out) hb); have n7_ := aK (Kd.R_below (by (with_reducible repeat (first | apply Kd.R_alloc | apply Kd.R_drewN | apply Kd.R_drew)); exact HO173.out) hb); have n8_ := aK (Kd.R_lower (Kd.R_new' (Kd.R_new' (Kd.R_new' ho35 (Kd.R_lt (by (with_reducible repeat (first | apply Kd.R_alloc | apply Kd.R_drewN | apply Kd.R_drew)); exact HO147.out))) (Kd.R_lt (by (with_reducible repeat (first | apply Kd.R_alloc | apply Kd.R_drewN | apply Kd.R_drew)); exact HO155.out))) (Kd.R_lt (by (with_reducible repeat (first | apply Kd.R_alloc | apply Kd.R_drewN | apply Kd.R_drew)); exact HO166.out))) (bZ_ (by repeat (first | (with_reducible first | exact HB.out | apply bA_ | apply bN_ | apply bD_) | exact HB.out)))); have n9_ := aK (bT_ (by repeat (first | (with_reducible first | exact HB.out | apply bA_ | apply bN_ | apply bD_) | exact HB.out)) hb); clear HO147; clear HO151; clear HO155; clear HO158; clear HO163; clear HO166; clear HO170; clear HO173; clear HB; have HO147 := n0_; have HO151 := n1_; have HO155 := n2_; have HO158 := n3_; have HO163 := n4_; have HO166 := n5_; have HO170 := n6_; have HO173 := n7_; have HO177 := n8_; have HB := n9_; clear n0_ n1_ n2_ n3_ n4_ n5_ n6_ n7_ n8_ n9_; clear hb ho35; obtain ⟨Ao36, co36, eo36⟩ := Kd.R_slice HO155.out; subst eo36; obtain ⟨Ao37, co37, eo37⟩ := Kd.R_slice HO177.out; subst eo37) | (go_at_call 17; (with_reducible refine (swarfref29_Pairs.calls k _ _ t152 _ _ y175 true _ ?side1 ?side2 ?side3 ?side4 A9.out).mono ?_); (case side1 => repeat (first | exact (Kd.R_reads' HO155.out).2.2 | (with_reducible refine Kd.C_alloc ?_ _) | (with_reducible refine Kd.C_drewN ?_ _) | (with_reducible refine Kd.C_drew ?_))); (case side2 => exact (Kd.R_reads' HO155.out).2.1); (case side3 => repeat (first | exact (Kd.R_reads' HO177.out).2.2 | (with_reducible refine Kd.C_alloc ?_ _) | (with_reducible refine Kd.C_drewN ?_ _) | (with_reducible refine Kd.C_drew ?_))); (case side4 => exact (Kd.R_reads' HO177.out).2.1); rintro e w' ⟨rfl, ⟨nd, rfl⟩⟩) | ((with_reducible refine gate_dst (N := 67) rfl ?_); (try (refine gate_guard (by rfl) ?_; dsimp only)); refine Kd.R_lit (Kd.int .i64) _ 3 ?hg (N := 67) ?hd (xs := ([2, 0, 1, 3] : List Int)) (inner := [.int .i64 2, .int .i64 0, .int .i64 1, .int .i64 3]) (ok := fun _ => True) (okp := fun _ => True) ?hr ?hp (fun _ hk => hk) trivial (Below.refl _ _) (Nat.le_refl _) (by simp) ?_; (case hd => rfl); (case hg => rfl); (case hr => first | (go_simp; done) | (go_simp; rfl)); (case hp => exact (Reps.one (show Kd.M (Kd.int .i64) _ _ _ 2 [.int .i64 2] from rfl) (Reps.one (show Kd.M (Kd.int .i64) _ _ _ 0 [.int .i64 0] from rfl) (Reps.one (show Kd.M (Kd.int .i64) _ _ _ 1 [.int .i64 1] from rfl) (Reps.one (show Kd.M (Kd.int .i64) _ _ _ 3 [.int .i64 3] from rfl) (Reps.none _ _)))))); intro v180 w38 ho39 hb hg_ hnew_; clear hg_ hnew_; (first | rw [← Ny179.out] at ho39 | (simp only [Int.reduceToNat] at ho39; rw [← Ny179.out] at ho39)); have n0_ := aK (Kd.R_below (by (with_reducible repeat (first | apply Kd.R_alloc | apply Kd.R_drewN | apply Kd.R_drew)); exact HO147.out) hb); have n1_ := aK (Kd.R_elder' (by (with_reducible repeat (first | apply Kd.R_alloc | apply Kd.R_drewN | apply Kd.R_drew)); exact HO151.out) (Kd.R_base ho39) hb); have n2_ := aK (Kd.R_below (by (with_reducible repeat (first | apply Kd.R_alloc | apply Kd.R_drewN | apply Kd.R_drew)); exact HO155.out) hb); have n3_ := aK (Kd.R_elder' (by (with_reducible repeat (first | apply Kd.R_alloc | apply Kd.R_drewN | apply Kd.R_drew)); exact HO158.out) (Kd.R_base ho39) hb); have n4_ := aK (Kd.R_elder' (by (with_reducible repeat (first | apply Kd.R_alloc | apply Kd.R_drewN | apply Kd.R_drew)); exact HO163.out) (Kd.R_base ho39) hb); have n5_ := aK (Kd.R_below (by (with_reducible repeat (first | apply Kd.R_alloc | apply Kd.R_drewN | apply Kd.R_drew)); exact HO166.out) hb); have n6_ := aK (Kd.R_elder' (by (with_reducible repeat (first | apply Kd.R_alloc | apply Kd.R_drewN | apply Kd.R_drew)); exact HO170.out) (Kd.R_base ho39) hb); have n7_ := aK (Kd.R_elder' (by (with_reducible repeat (first | apply Kd.R_alloc | apply Kd.R_drewN | apply Kd.R_drew)); exact HO173.out) (Kd.R_base ho39) hb); have n8_ := aK (Kd.R_below (by (with_reducible repeat (first | apply Kd.R_alloc | apply Kd.R_drewN | apply Kd.R_drew)); exact HO177.out) hb); have n9_ := aK (Kd.R_lower (Kd.R_new' (Kd.R_new' (Kd.R_new' (Kd.R_new' (Kd.R_new' ho39 (Kd.R_lt (by (with_reducible repeat (first | apply Kd.R_alloc | apply Kd.R_drewN | apply Kd.R_drew)); exact HO151.out))) (Kd.R_lt (by (with_reducible repeat (first | apply Kd.R_alloc | apply Kd.R_drewN | apply Kd.R_drew)); exact HO158.out))) (Kd.R_lt (by (with_reducible repeat (first | apply Kd.R_alloc | apply Kd.R_drewN | apply Kd.R_drew)); exact HO163.out))) (Kd.R_lt (by (with_reducible repeat (first | apply Kd.R_alloc | apply Kd.R_drewN | apply Kd.R_drew)); exact HO170.out))) (Kd.R_lt (by (with_reducible repeat (first | apply Kd.R_alloc | apply Kd.R_drewN | apply Kd.R_drew)); exact HO173.out))) (bZ_ (by repeat (first | (with_reducible first | exact HB.out | apply bA_ | apply bN_ | apply bD_) | exact HB.out)))); have n10_ := aK (bT_ (by repeat (first | (with_reducible first | exact HB.out | apply bA_ | apply bN_ | apply bD_) | exact HB.out)) hb); clear HO147; clear HO151; clear HO155; clear HO158; clear HO163; clear HO166; clear HO170; clear HO173; clear HO177; clear HB; have HO147 := n0_; have HO151 := n1_; have HO155 := n2_; have HO158 := n3_; have HO163 := n4_; have HO166 := n5_; have HO170 := n6_; have HO173 := n7_; have HO177 := n8_; have HO181 := n9_; have HB := n10_; clear n0_ n1_ n2_ n3_ n4_ n5_ n6_ n7_ n8_ n9_ n10_; clear hb ho39; obtain ⟨Ao40, co40, eo40⟩ := Kd.R_slice HO163.out; subst eo40; obtain ⟨Ao41, co41, eo41⟩ := Kd.R_slice HO181.out; subst eo41) | (go_at_call 27; (with_reducible refine (swarfref29_Ints.calls k _ _ t159 _ _ y179 true _ ?side1 ?side2 ?side3 ?side4 A13.out).mono ?_); (case side1 => repeat (first | exact (Kd.R_reads' HO163.out).2.2 | (with_reducible refine Kd.C_alloc ?_ _) | (with_reducible refine Kd.C_drewN ?_ _) | (with_reducible refine Kd.C_drew ?_))); (case side2 => exact (Kd.R_reads' HO163.out).2.1); (case side3 => repeat (first | exact (Kd.R_reads' HO181.out).2.2 | (with_reducible refine Kd.C_alloc ?_ _) | (with_reducible refine Kd.C_drewN ?_ _) | (with_reducible refine Kd.C_drew ?_))); (case side4 => exact (Kd.R_reads' HO181.out).2.1); rintro e w' ⟨rfl, ⟨nd, rfl⟩⟩) | ((with_reducible refine gate_dst (N := 76) rfl ?_); (try (refine gate_guard (by rfl) ?_; dsimp only)); refine Kd.R_lit k47 _ 47 ?hg (N := 76) ?hd (xs := ([(⟨0, 1⟩ : S47), (⟨1, 0⟩ : S47)] : List (S47))) (inner := [.int .i64 0, .int .i64 1, .int .i64 1, .int .i64 0]) (ok := fun _ => True) (okp := fun _ => True) ?hr ?hp (fun _ hk => hk) trivial (Below.refl _ _) (Nat.le_refl _) (by simp) ?_; (case hd => rfl); (case hg => rfl); (case hr => first | (go_simp; done) | (go_simp; rfl)); (case hp => exact (Reps.c2 (show Kd.M k47 _ _ _ (⟨0, 1⟩ : S47) [.int .i64 0, .int .i64 1] from (k47_mkM _ _ _ (⟨0, 1⟩ : S47) )) (Reps.c2 (show Kd.M k47 _ _ _ (⟨1, 0⟩ : S47) [.int .i64 1, .int .i64 0] from (k47_mkM _ _ _ (⟨1, 0⟩ : S47) )) (Reps.none _ _)))); intro v184 w42 ho43 hb hg_ hnew_; clear hg_ hnew_; (first | rw [← Ny183.out] at ho43 | (simp only [Int.reduceToNat] at ho43; rw [← Ny183.out] at ho43)); have n0_ := aK (Kd.R_elder' (by (with_reducible repeat (first | apply Kd.R_alloc | apply Kd.R_drewN | apply Kd.R_drew)); exact HO147.out) (Kd.R_base ho43) hb); have n1_ := aK (Kd.R_below (by (with_reducible repeat (first | apply Kd.R_alloc | apply Kd.R_drewN | apply Kd.R_drew)); exact HO151.out) hb); have n2_ := aK (Kd.R_elder' (by (with_reducible repeat (first | apply Kd.R_alloc | apply Kd.R_drewN | apply Kd.R_drew)); exact HO155.out) (Kd.R_base ho43) hb); have n3_ := aK (Kd.R_below (by (with_reducible repeat (first | apply Kd.R_alloc | apply Kd.R_drewN | apply Kd.R_drew)); exact HO158.out) hb); have n4_ := aK (Kd.R_below (by (with_reducible repeat (first | apply Kd.R_alloc | apply Kd.R_drewN | apply Kd.R_drew)); exact HO163.out) hb); have n5_ := aK (Kd.R_elder' (by (with_reducible repeat (first | apply Kd.R_alloc | apply Kd.R_drewN | apply Kd.R_drew)); exact HO166.out) (Kd.R_base ho43) hb); have n6_ := aK (Kd.R_below (by (with_reducible repeat (first | apply Kd.R_alloc | apply Kd.R_drewN | apply Kd.R_drew)); exact HO170.out) hb); have n7_ := aK (Kd.R_below (by (with_reducible repeat (first | apply Kd.R_alloc | apply Kd.R_drewN | apply Kd.R_drew)); exact HO173.out) hb); have n8_ := aK (Kd.R_elder' (by (with_reducible repeat (first | apply Kd.R_alloc | apply Kd.R_drewN | apply Kd.R_drew)); exact HO177.out) (Kd.R_base ho43) hb); have n9_ := aK (Kd.R_below (by (with_reducible repeat (first | apply Kd.R_alloc | apply Kd.R_drewN | apply Kd.R_drew)); exact HO181.out) hb); have n10_ := aK (Kd.R_lower (Kd.R_new' (Kd.R_new' (Kd.R_new' (Kd.R_new' ho43 (Kd.R_lt (by (with_reducible repeat (first | apply Kd.R_alloc | apply Kd.R_drewN | apply Kd.R_drew)); exact HO147.out))) (Kd.R_lt (by (with_reducible repeat (first | apply Kd.R_alloc | apply Kd.R_drewN | apply Kd.R_drew)); exact HO155.out))) (Kd.R_lt (by (with_reducible repeat (first | apply Kd.R_alloc | apply Kd.R_drewN | apply Kd.R_drew)); exact HO166.out))) (Kd.R_lt (by (with_reducible repeat (first | apply Kd.R_alloc | apply Kd.R_drewN | apply Kd.R_drew)); exact HO177.out))) (bZ_ (by repeat (first | (with_reducible first | exact HB.out | apply bA_ | apply bN_ | apply bD_) | exact HB.out)))); have n11_ := aK (bT_ (by repeat (first | (with_reducible first | exact HB.out | apply bA_ | apply bN_ | apply bD_) | exact HB.out)) hb); clear HO147; clear HO151; clear HO155; clear HO158; clear HO163; clear HO166; clear HO170; clear HO173; clear HO177; clear HO181; clear HB; have HO147 := n0_; have HO151 := n1_; have HO155 := n2_; have HO158 := n3_; have HO163 := n4_; have HO166 := n5_; have HO170 := n6_; have HO173 := n7_; have HO177 := n8_; have HO181 := n9_; have HO185 := n10_; have HB := n11_; clear n0_ n1_ n2_ n3_ n4_ n5_ n6_ n7_ n8_ n9_ n10_ n11_; clear hb ho43; obtain ⟨Ao44, co44, eo44⟩ := Kd.R_slice HO185.out; subst eo44; obtain ⟨Ao45, co45, eo45⟩ := Kd.R_slice HO170.out; subst eo45) | (go_at_call 24; (with_reducible refine (swarfref29_Circle.calls k _ _ y183 _ _ t167 t186 _ ?side1 ?side2 ?side3 ?side4 A16.out).mono ?_); (case side1 => repeat (first | exact (Kd.R_reads' HO185.out).2.2 | (with_reducible refine Kd.C_alloc ?_ _) | (with_reducible refine Kd.C_drewN ?_ _) | (with_reducible refine Kd.C_drew ?_))); (case side2 => exact (Kd.R_reads' HO185.out).2.1); (case side3 => repeat (first | exact (Kd.R_reads' HO170.out).2.2 | (with_reducible refine Kd.C_alloc ?_ _) | (with_reducible refine Kd.C_drewN ?_ _) | (with_reducible refine Kd.C_drew ?_))); (case side4 => exact (Kd.R_reads' HO170.out).2.1); rintro e w' ⟨rfl, ⟨nd, rfl⟩⟩))
         go_ret
         exact ⟨by first | rfl | (simp [errW_none, errW_some] <;> rfl) | (simp [*, errW_none, errW_some] <;> rfl), by repeat (first | (with_reducible first | exact HB.out | apply bA_ | apply bN_ | apply bD_) | exact HB.out)⟩
        ·replace c15 := Bool.eq_false_iff.mpr c15
         subst c15
         have H1 : (some false) = some r := by rw [if_neg (show ¬ (false = true) by decide)] at H; exact H
         clear H; have H := H1; clear H1
         (rw [HRT.out] at H; exact absurd H (by decide))
       ·replace c14 := Bool.eq_false_iff.mpr c14
        subst c14
        have H1 : (some false) = some r := by rw [if_neg (show ¬ (false = true) by decide)] at H; exact H
        clear H; have H := H1; clear H1
        (rw [HRT.out] at H; exact absurd H (by decide))
      ·rw [if_neg c12] at H
       have c12b0 : (t160 == 1) = false := beq_eq_false_iff_ne.mpr c12
       have c12b1 : (t160 != 1) = true := bne_iff_ne.mpr c12
       (rw [HRT.out] at H; exact absurd H (by decide))
     ·rw [if_neg c11] at H
      have c11b0 : (t161 == 0) = false := beq_eq_false_iff_ne.mpr c11
      have c11b1 : (t161 != 0) = true := bne_iff_ne.mpr c11
      (rw [HRT.out] at H; exact absurd H (by decide))
    ·replace c10 := Bool.eq_false_iff.mpr c10
     subst c10
     have H1 : (some false) = some r := by rw [if_neg (show ¬ (false = true) by decide)] at H; exact H
     clear H; have H := H1; clear H1
     (rw [HRT.out] at H; exact absurd H (by decide))
   ·rw [if_neg c8] at H
    have c8b0 : (t153 == 0) = false := beq_eq_false_iff_ne.mpr c8
    have c8b1 : (t153 != 0) = true := bne_iff_ne.mpr c8
    (rw [HRT.out] at H; exact absurd H (by decide))
  ·replace c7 := Bool.eq_false_iff.mpr c7
   subst c7
   have H1 : (some false) = some r := by rw [if_neg (show ¬ (false = true) by decide)] at H; exact H
   clear H; have H := H1; clear H1
   (rw [HRT.out] at H; exact absurd H (by decide))
 ·rw [if_neg c5] at H
  have c5b0 : (t149 == 0) = false := beq_eq_false_iff_ne.mpr c5
  have c5b1 : (t149 != 0) = true := bne_iff_ne.mpr c5
  (rw [HRT.out] at H; exact absurd H (by decide))
end Go.Proofs.Ytbbkclcfmcjlgaa.P


namespace Go.Proofs.Ytbbkclcfmcjlgaa.P
open Go.RowKit Go.Proofs.YtbbkclcfmcjlgaaW.PrintWords Go.Proofs.YtbbkclcfmcjlgaaW.PrintLast Go.Proofs.YtbbkclcfmcjlgaaW.PrintMore
attribute [local go_sem] max2_int min2_int max_two min_two max_three min_three max_four min_four
set_option linter.unusedVariables false
set_option linter.unusedSimpArgs false

mutual
def swarfref29_Valid.j0 : Nat → Int → List (S47) → Bool → Option (Int)
 | 0, _, _, _ => none
 | k + 1, x0, x1, x14 => if x14 = true then (some 3) else (if x0 < 0 then (some 1) else (swarfref29_Valid.l0 k x0 x1 0))
def swarfref29_Valid.l0 : Nat → Int → List (S47) → Int → Option (Int)
 | 0, _, _, _ => none
 | k + 1, x0, x1, x5 => if x5 < (x1.length : Int) then (if 0 ≤ x5 then (if ((rd_T47 x1 x5).f0) < 0 then (some 1) else (if ((rd_T47 x1 x5).f0) ≥ x0 then (some 1) else (if ((rd_T47 x1 x5).f1) < 0 then (some 1) else (if ((rd_T47 x1 x5).f1) ≥ x0 then (some 1) else (if ((rd_T47 x1 x5).f0) = ((rd_T47 x1 x5).f1) then (some 1) else (swarfref29_Valid.l0 k x0 x1 (wrap64 (x5 + 1)))))))) else (none)) else (some 0)
end
def swarfref29_Valid.f (k : Nat) (a0 : Int) (l1 : List (S47)) : Option (Int) := if a0 > 200 then (swarfref29_Valid.j0 k a0 l1 true) else (swarfref29_Valid.j0 k a0 l1 (decide ((l1.length : Int) > 2000)))
set_option maxHeartbeats 8000000 in
set_option maxRecDepth 100000 in
theorem swarfref29_Valid.calls (k : Nat) (a0 : Int) (A1 : Option Addr) (c1 : Nat) (l1 : List (S47)) (r : Int) (w : World) (hr1 : Kd.C k47 w A1 l1.length l1) (hc1 : l1.length ≤ c1) (h : swarfref29_Valid.f k a0 l1 = some r) :
  Calls Try.prog 21 #[.int .i64 a0, .slice A1 l1.length c1] w fun e w' => e = .returned (.int .i64 r) ∧ Drawn0 w w' := by
 have HR1 := aK hr1
 have HC1 := aK hc1
 clear hr1 hc1
 have H : (if a0 > 200 then (swarfref29_Valid.j0 k a0 l1 true) else (swarfref29_Valid.j0 k a0 l1 (decide ((l1.length : Int) > 2000)))) = some r := h
 clear h
 have HC3 := aK H
 clear H
 go_enter Try.func21, Try.ntmps21
 go_upto_region 1 with (fail)
 repeat (go_quiet (fail); go_upto_region 1 with (fail))
 go_cut [14] (fun v14 wc => ∃ (kq : Nat) (x14_2 : Bool), v14 = .bool x14_2 ∧ Aside0 (swarfref29_Valid.j0 kq a0 l1 x14_2 = some r) ∧ Aside0 (kq ≤ k) ∧ Drawn0 w wc)
 case first =>
  have H := HC3.out
  clear HC3
  by_cases c4 : a0 > 200
  ·rw [if_pos c4] at H
   have c4b0 : decide (200 < a0) = true := decide_eq_true c4
   clear c4
   (first | rw [c4b0] | (simp only [i64_w, i32_w]; rw [c4b0]) | skip)
   have H' := aK H; clear H; go_wp2
   repeat (go_quiet (fail); try go_wp2)
   go_meet
   case rel => exact ⟨_, (true), (by first | rfl | (simp; done) | (simp [*]; done)), H', ⟨by first | omega | exact Nat.le_refl _⟩, by repeat (first | exact Drawn0.refl _ | apply Drawn0.step)⟩
  ·rw [if_neg c4] at H
   have c4b0 : decide (200 < a0) = false := decide_eq_false c4
   clear c4
   (first | rw [c4b0] | (simp only [i64_w, i32_w]; rw [c4b0]) | skip)
   have H' := aK H; clear H; go_wp2
   repeat (go_quiet (fail); try go_wp2)
   go_meet
   case rel => exact ⟨_, (decide ((l1.length : Int) > 2000)), (by first | rfl | (simp; done) | (simp [*]; done)), H', ⟨by first | omega | exact Nat.le_refl _⟩, by repeat (first | exact Drawn0.refl _ | apply Drawn0.step)⟩
 case rest =>
  clear HC3; try clear c1; try clear c2; try clear p2; try clear c4; try clear c4b0
  obtain ⟨kq, x14_2, rfl, HA, HJ2, ⟨mc2, rfl⟩⟩ := hcut
  cases kq with
  | zero => exact absurd HA.out (by simp [swarfref29_Valid.j0])
  | succ kj2 =>
   have H := HA.out
   clear HA
   simp only [swarfref29_Valid.j0] at H
   by_cases c5 : x14_2 = true
   ·subst c5
    have H1 : (some 3) = some r := by rw [if_pos rfl] at H; exact H
    clear H; have H := H1; clear H1; obtain rfl := Option.some.inj H; go_wp2
    repeat (go_quiet (fail); try go_wp2)
    go_ret
    exact ⟨by first | rfl | (simp; done) | (simp [*]; done), by repeat (first | exact Drawn0.refl _ | apply Drawn0.step)⟩
   ·replace c5 := Bool.eq_false_iff.mpr c5
    subst c5
    have H1 : (if a0 < 0 then (some 1) else (swarfref29_Valid.l0 kj2 a0 l1 0)) = some r := by rw [if_neg (show ¬ (false = true) by decide)] at H; exact H
    clear H; have H := H1; clear H1
    by_cases c6 : a0 < 0
    ·rw [if_pos c6] at H
     have c6b0 : decide (a0 < 0) = true := decide_eq_true c6
     clear c6; obtain rfl := Option.some.inj H; go_wp2
     repeat (go_quiet (fail); try go_wp2)
     go_ret
     exact ⟨by first | rfl | (simp; done) | (simp [*]; done), by repeat (first | exact Drawn0.refl _ | apply Drawn0.step)⟩
    ·rw [if_neg c6] at H
     have c6b0 : decide (a0 < 0) = false := decide_eq_false c6
     clear c6; have H' := aK H; clear H; go_wp2
     repeat (go_quiet (fail); try go_wp2)
     go_loopg [5] kj2 (fun kq v5 w' => ∃ (x5_2 : Int), v5 = .int .i64 x5_2 ∧ Aside0 (swarfref29_Valid.l0 kq a0 l1 x5_2 = some r) ∧ Aside0 (kq ≤ kj2) ∧ Drawn0 w w')
     case atStart => exact ⟨(0), (by first | rfl | (simp; done) | (simp [*]; done)), H', ⟨Nat.le_refl _⟩, by repeat (first | exact Drawn0.refl _ | apply Drawn0.step)⟩
     case round =>
      clear H'; try clear c1; try clear c2; try clear p2; try clear c4; try clear c4b0; try clear c5; try clear c6; try clear c6b0; try clear p2
      obtain ⟨x5_2, rfl, HA, HK2, ⟨m2, rfl⟩⟩ := hrel
      cases gk with
      | zero => exact absurd HA.out (by simp [swarfref29_Valid.l0])
      | succ k2 =>
       have H := HA.out
       clear HA
       simp only [swarfref29_Valid.l0] at H
       by_cases c7 : x5_2 < (l1.length : Int)
       ·rw [if_pos c7] at H
        have c7b0 : decide (x5_2 < (l1.length : Int)) = true := decide_eq_true c7
        clear c7
        by_cases c8 : 0 ≤ x5_2
        ·rw [if_pos c8] at H
         have c8b0 : decide (0 ≤ x5_2) = true := decide_eq_true c8
         clear c8
         by_cases c9 : ((rd_T47 l1 x5_2).f0) < 0
         ·rw [if_pos c9] at H
          have c9b0 : decide (((rd_T47 l1 x5_2).f0) < 0) = true := decide_eq_true c9
          clear c9; obtain rfl := Option.some.inj H
          have p187 : 0 ≤ (x5_2 : Int) := of_decide_eq_true (by first | (with_reducible assumption) | assumption)
          have q187 : x5_2 < (l1.length : Int) := of_decide_eq_true (by first | (with_reducible assumption) | assumption)
          obtain ⟨ad187, e187, hx187_0, hx187_1⟩ := at_T47 HR1.out x5_2 p187 q187
          cases e187; replace p187 := eq_true p187; replace q187 := eq_true q187
          have p188 : 0 ≤ (x5_2 : Int) := of_decide_eq_true (by first | (with_reducible assumption) | assumption)
          have q188 : x5_2 < (l1.length : Int) := of_decide_eq_true (by first | (with_reducible assumption) | assumption)
          obtain ⟨ad188, e188, hx188_0, hx188_1⟩ := at_T47 HR1.out x5_2 p188 q188
          obtain rfl : ad187 = ad188 := (by injection e188)
          replace p188 := eq_true p188; replace q188 := eq_true q188; go_wp2
          repeat (go_quiet (fail); try go_wp2)
          go_ret
          exact ⟨by first | rfl | (simp; done) | (simp [*]; done), by repeat (first | exact Drawn0.refl _ | apply Drawn0.step)⟩
         ·rw [if_neg c9] at H
          have c9b0 : decide (((rd_T47 l1 x5_2).f0) < 0) = false := decide_eq_false c9
          clear c9
          by_cases c10 : ((rd_T47 l1 x5_2).f0) ≥ a0
          ·rw [if_pos c10] at H
           have c10b0 : decide (a0 ≤ ((rd_T47 l1 x5_2).f0)) = true := decide_eq_true c10
           clear c10; obtain rfl := Option.some.inj H
           have p187 : 0 ≤ (x5_2 : Int) := of_decide_eq_true (by first | (with_reducible assumption) | assumption)
           have q187 : x5_2 < (l1.length : Int) := of_decide_eq_true (by first | (with_reducible assumption) | assumption)
           obtain ⟨ad187, e187, hx187_0, hx187_1⟩ := at_T47 HR1.out x5_2 p187 q187
           cases e187; replace p187 := eq_true p187; replace q187 := eq_true q187
           have p188 : 0 ≤ (x5_2 : Int) := of_decide_eq_true (by first | (with_reducible assumption) | assumption)
           have q188 : x5_2 < (l1.length : Int) := of_decide_eq_true (by first | (with_reducible assumption) | assumption)
           obtain ⟨ad188, e188, hx188_0, hx188_1⟩ := at_T47 HR1.out x5_2 p188 q188
           obtain rfl : ad187 = ad188 := (by injection e188)
           replace p188 := eq_true p188; replace q188 := eq_true q188; go_wp2
           repeat (go_quiet (fail); try go_wp2)
           go_ret
           exact ⟨by first | rfl | (simp; done) | (simp [*]; done), by repeat (first | exact Drawn0.refl _ | apply Drawn0.step)⟩
          ·rw [if_neg c10] at H
           have c10b0 : decide (a0 ≤ ((rd_T47 l1 x5_2).f0)) = false := decide_eq_false c10
           clear c10
           by_cases c11 : ((rd_T47 l1 x5_2).f1) < 0
           ·rw [if_pos c11] at H
            have c11b0 : decide (((rd_T47 l1 x5_2).f1) < 0) = true := decide_eq_true c11
            clear c11; obtain rfl := Option.some.inj H
            have p187 : 0 ≤ (x5_2 : Int) := of_decide_eq_true (by first | (with_reducible assumption) | assumption)
            have q187 : x5_2 < (l1.length : Int) := of_decide_eq_true (by first | (with_reducible assumption) | assumption)
            obtain ⟨ad187, e187, hx187_0, hx187_1⟩ := at_T47 HR1.out x5_2 p187 q187
            cases e187; replace p187 := eq_true p187; replace q187 := eq_true q187
            have p188 : 0 ≤ (x5_2 : Int) := of_decide_eq_true (by first | (with_reducible assumption) | assumption)
            have q188 : x5_2 < (l1.length : Int) := of_decide_eq_true (by first | (with_reducible assumption) | assumption)
            obtain ⟨ad188, e188, hx188_0, hx188_1⟩ := at_T47 HR1.out x5_2 p188 q188
            obtain rfl : ad187 = ad188 := (by injection e188)
            replace p188 := eq_true p188; replace q188 := eq_true q188; go_wp2
            repeat (go_quiet (fail); try go_wp2)
            go_ret
            exact ⟨by first | rfl | (simp; done) | (simp [*]; done), by repeat (first | exact Drawn0.refl _ | apply Drawn0.step)⟩
           ·rw [if_neg c11] at H
            have c11b0 : decide (((rd_T47 l1 x5_2).f1) < 0) = false := decide_eq_false c11
            clear c11
            by_cases c12 : ((rd_T47 l1 x5_2).f1) ≥ a0
            ·rw [if_pos c12] at H
             have c12b0 : decide (a0 ≤ ((rd_T47 l1 x5_2).f1)) = true := decide_eq_true c12
             clear c12; obtain rfl := Option.some.inj H
             have p187 : 0 ≤ (x5_2 : Int) := of_decide_eq_true (by first | (with_reducible assumption) | assumption)
             have q187 : x5_2 < (l1.length : Int) := of_decide_eq_true (by first | (with_reducible assumption) | assumption)
             obtain ⟨ad187, e187, hx187_0, hx187_1⟩ := at_T47 HR1.out x5_2 p187 q187
             cases e187; replace p187 := eq_true p187; replace q187 := eq_true q187
             have p188 : 0 ≤ (x5_2 : Int) := of_decide_eq_true (by first | (with_reducible assumption) | assumption)
             have q188 : x5_2 < (l1.length : Int) := of_decide_eq_true (by first | (with_reducible assumption) | assumption)
             obtain ⟨ad188, e188, hx188_0, hx188_1⟩ := at_T47 HR1.out x5_2 p188 q188
             obtain rfl : ad187 = ad188 := (by injection e188)
             replace p188 := eq_true p188; replace q188 := eq_true q188; go_wp2
             repeat (go_quiet (fail); try go_wp2)
             go_ret
             exact ⟨by first | rfl | (simp; done) | (simp [*]; done), by repeat (first | exact Drawn0.refl _ | apply Drawn0.step)⟩
            ·rw [if_neg c12] at H
             have c12b0 : decide (a0 ≤ ((rd_T47 l1 x5_2).f1)) = false := decide_eq_false c12
             clear c12
             by_cases c13 : ((rd_T47 l1 x5_2).f0) = ((rd_T47 l1 x5_2).f1)
             ·rw [if_pos c13] at H
              have c13b0 : (((rd_T47 l1 x5_2).f0) == ((rd_T47 l1 x5_2).f1)) = true := beq_iff_eq.mpr c13
              have c13b1 : (((rd_T47 l1 x5_2).f0) != ((rd_T47 l1 x5_2).f1)) = false := bne_eq_false_iff_eq.mpr c13
              clear c13; obtain rfl := Option.some.inj H
              have p187 : 0 ≤ (x5_2 : Int) := of_decide_eq_true (by first | (with_reducible assumption) | assumption)
              have q187 : x5_2 < (l1.length : Int) := of_decide_eq_true (by first | (with_reducible assumption) | assumption)
              obtain ⟨ad187, e187, hx187_0, hx187_1⟩ := at_T47 HR1.out x5_2 p187 q187
              cases e187; replace p187 := eq_true p187; replace q187 := eq_true q187
              have p188 : 0 ≤ (x5_2 : Int) := of_decide_eq_true (by first | (with_reducible assumption) | assumption)
              have q188 : x5_2 < (l1.length : Int) := of_decide_eq_true (by first | (with_reducible assumption) | assumption)
              obtain ⟨ad188, e188, hx188_0, hx188_1⟩ := at_T47 HR1.out x5_2 p188 q188
              obtain rfl : ad187 = ad188 := (by injection e188)
              replace p188 := eq_true p188; replace q188 := eq_true q188; go_wp2
              repeat (go_quiet (fail); try go_wp2)
              go_ret
              exact ⟨by first | rfl | (simp; done) | (simp [*]; done), by repeat (first | exact Drawn0.refl _ | apply Drawn0.step)⟩
             ·rw [if_neg c13] at H
              have c13b0 : (((rd_T47 l1 x5_2).f0) == ((rd_T47 l1 x5_2).f1)) = false := beq_eq_false_iff_ne.mpr c13
              have c13b1 : (((rd_T47 l1 x5_2).f0) != ((rd_T47 l1 x5_2).f1)) = true := bne_iff_ne.mpr c13
              have H' := aK H; clear H
              have p187 : 0 ≤ (x5_2 : Int) := of_decide_eq_true (by first | (with_reducible assumption) | assumption)
              have q187 : x5_2 < (l1.length : Int) := of_decide_eq_true (by first | (with_reducible assumption) | assumption)
              obtain ⟨ad187, e187, hx187_0, hx187_1⟩ := at_T47 HR1.out x5_2 p187 q187
              cases e187; replace p187 := eq_true p187; replace q187 := eq_true q187
              have p188 : 0 ≤ (x5_2 : Int) := of_decide_eq_true (by first | (with_reducible assumption) | assumption)
              have q188 : x5_2 < (l1.length : Int) := of_decide_eq_true (by first | (with_reducible assumption) | assumption)
              obtain ⟨ad188, e188, hx188_0, hx188_1⟩ := at_T47 HR1.out x5_2 p188 q188
              obtain rfl : ad187 = ad188 := (by injection e188)
              replace p188 := eq_true p188; replace q188 := eq_true q188; go_wp2
              repeat (go_quiet (fail); try go_wp2)
              go_roundg k2
              case measure => have := HJ2.out; have := HK2.out; omega
              case rel => exact ⟨(wrap64 (x5_2 + 1)), (by first | rfl | (simp; done) | (simp [*]; done)), H', ⟨by have := HJ2.out; have := HK2.out; omega⟩, by repeat (first | exact Drawn0.refl _ | apply Drawn0.step)⟩
        ·rw [if_neg c8] at H
         exact absurd H (by simp)
       ·rw [if_neg c7] at H
        have c7b0 : decide (x5_2 < (l1.length : Int)) = false := decide_eq_false c7
        clear c7; obtain rfl := Option.some.inj H; go_wp2
        repeat (go_quiet (fail); try go_wp2)
        go_ret
        exact ⟨by first | rfl | (simp; done) | (simp [*]; done), by repeat (first | exact Drawn0.refl _ | apply Drawn0.step)⟩

end Go.Proofs.Ytbbkclcfmcjlgaa.P
