import Derived.Test.YtbbkclcfmcjlgaaT7M23
import Derived.RangeFuncBox
import Derived.RangeFuncLeaves
import Derived.RangeFuncWrites
import Derived.WalkKit
import Derived.OwnWalkIn
import Derived.TacticsInMore
import Derived.LoopNIn
import Derived.LoopIn
import Derived.Test.YtbbkclcfmcjlgaaT7GRead
import Derived.Deep.DeepMust
import Derived.Shelf.Abstract


namespace Go.Proofs.Ytbbkclcfmcjlgaa.P
open Go.RowKit Go.Proofs.YtbbkclcfmcjlgaaW.PrintWords Go.Proofs.YtbbkclcfmcjlgaaW.PrintLast Go.Proofs.YtbbkclcfmcjlgaaW.PrintMore
set_option linter.unusedVariables false
set_option linter.unusedSimpArgs false

def bst.l0 (M : Int) : Nat → Int → List (List Int) → Option (List (List Int))
 | 0, _, _ => none
 | k + 1, i, C => if i < (C.length : Int) then (if 0 ≤ i then bst.l0 M k (wrap64 (i + 1)) (C.set i.toNat (List.replicate M.toNat 0)) else none) else some C
def bst.l1 (l : List S47) : Nat → Int → List Int → Option (List Int)
 | 0, _, _ => none
 | k + 1, i, nd => if i < (l.length : Int) then (if 0 ≤ i then (if 0 ≤ (rd_T47 l i).f1 ∧ (rd_T47 l i).f1 < (nd.length : Int) ∧ 0 ≤ (rd_T47 l i).f0 then bst.l1 l k (wrap64 (i + 1)) (nd.set (rd_T47 l i).f1.toNat (Go.bits .or .i64 (rd nd (rd_T47 l i).f1) (shl .i64 1 (rd_T47 l i).f0))) else none) else none) else some nd
def bst.l3 (nd tl : List Int) (full n s la : Int) : Nat → Int → Int → Int → List (List Int) → Option (Int × Int × List (List Int))
 | 0, _, _, _, _ => none
 | k + 1, i, b, le, C => if i < n then ((sopen.f nd s i).bind fun t => if t = true then ((sstep.f nd tl full k s la i C).bind fun u => if b < 0 then bst.l3 nd tl full n s la k (wrap64 (i + 1)) i u.1 u.2 else (if u.1 < le then bst.l3 nd tl full n s la k (wrap64 (i + 1)) i u.1 u.2 else bst.l3 nd tl full n s la k (wrap64 (i + 1)) b le u.2)) else bst.l3 nd tl full n s la k (wrap64 (i + 1)) b le C) else some (b, le, C)
def bst.l2 (nd tl : List Int) (full n : Int) : Nat → Int → Int → Int → List Int → List (List Int) → Option (List Int × Int)
 | 0, _, _, _, _, _ => none
 | k + 1, s, la, ch, o, C => if s = full then some (o, ch) else ((bst.l3 nd tl full n s la k 0 (-1) 0 C).bind fun t => if 0 ≤ t.1 ∧ o.length < 1000000 then bst.l2 nd tl full n k (Go.bits .or .i64 s (shl .i64 1 t.1)) t.1 (if la < 0 then t.2.1 else ch) (o ++ [t.1]) t.2.2 else none)
def precedence_Best.f (k : Nat) (n : Int) (l : List S47) (tl : List Int) : Option (List Int × Int × Int) := (precedence_Valid.f k n l).bind fun e => if e = 0 then (if (tl.length : Int) = n then (if n > 16 then some ([], 0, 3) else ((precedence_Order.f k n l).bind fun t => if t.2 = 0 then (if (0 ≤ n ∧ n.toNat ≤ 1000000) ∧ 0 ≤ shl .i64 1 n ∧ (shl .i64 1 n).toNat ≤ 1000000 then
  ((bst.l0 (shl .i64 1 n) k 0 (List.replicate n.toNat [])).bind fun C => (bst.l1 l k 0 (List.replicate n.toNat 0)).bind fun nd => (bst.l2 nd tl (wrap64 (shl .i64 1 n - 1)) n k 0 (-1) 0 [] C).bind fun r => some (r.1, r.2, 0)) else none) else some ([], 0, t.2))) else some ([], 0, 1)) else some ([], 0, e)
theorem bst.mono0 (M : Int) : ∀ k i C, LeO (bst.l0 M k i C) (bst.l0 M (k + 1) i C) := by
 intro k
 induction k with
 | zero => intro i C; exact LeO.none _
 | succ k ih => intro i C; rw [bst.l0, bst.l0]; exact LeO.ite (LeO.ite (ih _ _) (LeO.none _)) (LeO.refl _)
theorem bst.mono1 (l : List S47) : ∀ k i nd, LeO (bst.l1 l k i nd) (bst.l1 l (k + 1) i nd) := by
 intro k
 induction k with
 | zero => intro i C; exact LeO.none _
 | succ k ih => intro i C; rw [bst.l1, bst.l1]; exact LeO.ite (LeO.ite (LeO.ite (ih _ _) (LeO.none _)) (LeO.none _)) (LeO.refl _)
theorem bst.mono3 (nd tl : List Int) (full n s la : Int) : ∀ k i b le C, LeO (bst.l3 nd tl full n s la k i b le C) (bst.l3 nd tl full n s la (k + 1) i b le C) := by
 intro k
 induction k with
 | zero => intro i b le C; exact LeO.none _
 | succ k ih => intro i b le C; rw [bst.l3, bst.l3]; exact LeO.ite (LeO.bind (LeO.refl _) (fun t => LeO.ite (LeO.bind ((search.mono nd tl full k).2.2 _ _ _ _) (fun u => LeO.ite (ih _ _ _ _) (LeO.ite (ih _ _ _ _) (ih _ _ _ _)))) (ih _ _ _ _))) (LeO.refl _)
theorem bst.mono2 (nd tl : List Int) (full n : Int) : ∀ k s la ch o C, LeO (bst.l2 nd tl full n k s la ch o C) (bst.l2 nd tl full n (k + 1) s la ch o C) := by
 intro k
 induction k with
 | zero => intro s la ch o C; exact LeO.none _
 | succ k ih => intro s la ch o C; rw [bst.l2, bst.l2]; exact LeO.ite (LeO.refl _) (LeO.bind (bst.mono3 _ _ _ _ _ _ _ _ _ _ _) (fun t => LeO.ite (ih _ _ _ _ _) (LeO.none _)))
theorem precedence_Best.mono : ∀ a0 a1 a2 k, LeO (precedence_Best.f k a0 a1 a2) (precedence_Best.f (k + 1) a0 a1 a2) := by
 intro a0 a1 a2 k
 unfold precedence_Best.f
 exact LeO.bind (precedence_Valid.mono _ _ _) (fun e => LeO.ite (LeO.ite (LeO.ite (LeO.refl _) (LeO.bind (precedence_Order.mono _ _ _) (fun t => LeO.ite (LeO.ite (LeO.bind (bst.mono0 _ _ _ _) (fun C => LeO.bind (bst.mono1 _ _ _ _) (fun nd => LeO.bind (bst.mono2 _ _ _ _ _ _ _ _ _ _) (fun r => LeO.refl _)))) (LeO.none _)) (LeO.refl _)))) (LeO.refl _)) (LeO.refl _))

theorem R_own_form {α : Type} {d : Kd α} {e base b : Nat} {ok : Nat → Prop} {W : World} {v : Value} {xs : List α} (h : d.R e W base ok v xs) (hb : v.ownBlock = some b) : ∃ c, v = .slice (some ⟨b, 0, none⟩) xs.length c := by
 obtain ⟨inner, ho⟩ := Kd.R_own h
 rcases ho.2 with ⟨hv, _⟩ | ⟨g, cap, cur, hv, _⟩
 ·rw [hv] at hb; simp [Value.ownBlock] at hb
 ·rw [hv] at hb
  have : g = b := by simpa [Value.ownBlock] using hb
  subst this
  exact ⟨cap, hv⟩
structure EnvB (w : World) (g gn gc : Nat) (A2 : Option Addr) (nN c0 c2 nC c3 : Nat) (tl : List Int) (fl : Int) (W : World) (nd : List Int) (C : List (List Int)) : Prop where
 bk : W.heap[g]? = some (.cells #[.slice (some ⟨gn, 0, none⟩) nN c0, .slice A2 tl.length c2, .int .i64 fl, .slice (some ⟨gc, 0, none⟩) nC c3] 69 (0, 0))
 n : Kd.R (Kd.int .i64) 3 W w.heap.size (fun k => k = gn) (.slice (some ⟨gn, 0, none⟩) nN c0) nd
 c : Kd.S (Kd.slice 3 (Kd.int .i64)) 31 W w.heap.size (fun k => k ≠ gn) (.slice (some ⟨gc, 0, none⟩) nC c3) C
 b : Below w.heap.size w W
 o : w.heap.size ≤ g
section
variable {w : World} {g gn gc : Nat} {A2 : Option Addr} {nN c0 c2 nC c3 : Nat} {tl : List Int} {fl : Int} {W W1 : World} {nd : List Int} {C : List (List Int)}
theorem EnvB.step (h : EnvB w g gn gc A2 nN c0 c2 nC c3 tl fl W nd C) (hb : Below W.heap.size W W1) : EnvB w g gn gc A2 nN c0 c2 nC c3 tl fl W1 nd C :=
 ⟨(hb.block _ (blk_lt h.bk)).trans h.bk, Kd.R_below h.n hb, Kd.S_below h.c hb, bT_ h.b hb, h.o⟩
theorem EnvB.drew (h : EnvB w g gn gc A2 nN c0 c2 nC c3 tl fl W nd C) : EnvB w g gn gc A2 nN c0 c2 nC c3 tl fl W.drew nd C := h.step (bD_ (Below.refl _ _))
theorem EnvB.z0 (h : EnvB w g gn gc A2 nN c0 c2 nC c3 tl fl W nd C) : W.cell? ⟨g, 0, none⟩ = some (.slice (some ⟨gn, 0, none⟩) nN c0) := (blk_cell h.bk 0).trans rfl
theorem EnvB.z3 (h : EnvB w g gn gc A2 nN c0 c2 nC c3 tl fl W nd C) : W.cell? ⟨g, 3, none⟩ = some (.slice (some ⟨gc, 0, none⟩) nC c3) := (blk_cell h.bk 3).trans rfl
theorem EnvB.lenN (h : EnvB w g gn gc A2 nN c0 c2 nC c3 tl fl W nd C) : nN = nd.length := (Kd.R_reads' h.n).1
theorem EnvB.lenC (h : EnvB w g gn gc A2 nN c0 c2 nC c3 tl fl W nd C) : nC = C.length := (Kd.S_reads' h.c).1
theorem EnvB.setN (h : EnvB w g gn gc A2 nN c0 c2 nC c3 tl fl W nd C) (i x : Int) : EnvB w g gn gc A2 nN c0 c2 nC c3 tl fl (W.setCell ⟨gn, i.toNat, none⟩ (.int .i64 x)) (nd.set i.toNat x) C := by
 obtain ⟨cells, hc⟩ := Kd.R_typed h.n gn rfl
 exact ⟨blk_far h.bk (blk_ne h.bk hc (by decide)) _, (Kd.R_putg h.n i x).1, Kd.S_far h.c (fun k hk => hk) _, below_set h.b (Kd.R_base h.n gn rfl), h.o⟩
theorem EnvB.far (h : EnvB w g gn gc A2 nN c0 c2 nC c3 tl fl W nd C) {gp : Nat} {cells : Array Value} (hp : W.heap[gp]? = some (.cells cells 47 (0, 0))) (ho : w.heap.size ≤ gp) (j : Nat) (v : Value) : EnvB w g gn gc A2 nN c0 c2 nC c3 tl fl (W.setCell ⟨gp, j, none⟩ v) nd C :=
 ⟨blk_far h.bk (blk_ne h.bk hp (by decide)) _, Kd.R_set h.n hp (by decide) _ _, Kd.S_set h.c hp (by decide) _ _, below_set h.b ho, h.o⟩
theorem EnvB.put (h : EnvB w g gn gc A2 nN c0 c2 nC c3 tl fl W nd C) (hb : Below W.heap.size W W1) {v : Value} {y : List Int} (hv : (Kd.int .i64).R 3 W1 W.heap.size (fun _ => True) v y) (i : Int) (i0 : 0 ≤ i) (i1 : i < nC) :
  EnvB w g gn gc A2 nN c0 c2 nC c3 tl fl (W1.setCell ⟨gc, i.toNat, none⟩ v) nd (C.set i.toNat y) ∧ W1.frozen? ⟨gc, i.toNat, none⟩ = false ∧ (∃ u, W1.cell? ⟨gc, i.toNat, none⟩ = some u) := by
 have hE := h.step hb
 have h2 := Kd.S_elder' h.c (Kd.R_base hv) hb
 have h3 : Kd.S (Kd.slice 3 (Kd.int .i64)) 31 W1 w.heap.size (fun k_ => k_ ≠ gn ∧ ¬ (some k_ = v.ownBlock)) (.slice (some ⟨gc, 0, none⟩) nC c3) C := Kd.S_mono h2 (fun k hk => ⟨hk.1, hk.2⟩)
 obtain ⟨oki, c, hcl, hM, hcc, hfr, hoki, hH⟩ := Kd.S_elem h3 [] i i0 i1
 obtain ⟨v0, rfl, hr⟩ := hM
 have hc0 := hcc 0 _ rfl
 have hf0 := hfr 0
 have hsz : (Kd.slice 3 (Kd.int .i64)).sz = 1 := rfl
 rw [Nat.add_zero, hsz, Nat.mul_one] at hc0 hf0
 have hgl := Kd.S_lt h.c gc rfl
 have hnl := Kd.R_lt h.n gn rfl
 have hvb : ∀ k, some k = v.ownBlock → W.heap.size ≤ k := fun k hk => Kd.R_base hv k hk.symm
 have hrow : (Kd.slice 3 (Kd.int .i64)).M W1 w.heap.size (fun k => some k = v.ownBlock) y [v] := Kd.M_row (Kd.R_lower (Kd.R_tight rfl hv) h.b.size)
 have hp := Kd.S_seg hH i0 i1 (seg := [v]) (j := 0) (show 1 ≤ 1 from by decide) (x' := y) hrow (fun k hk => Or.inr hk) (fun k hk => ⟨fun e => by have := hvb k hk; omega, fun e => by have := hvb k hk; omega⟩)
 rw [Nat.add_zero, hsz, Nat.mul_one] at hp
 obtain ⟨cells, hct⟩ := Kd.S_typed hE.c gc rfl
 exact ⟨⟨blk_far hE.bk (blk_ne hE.bk hct (by decide)) _, Kd.R_set hE.n hct (by decide) _ _, hp.1, below_set hE.b (Kd.S_base h.c gc rfl), h.o⟩, hf0, _, hc0⟩
theorem setAllS {nd0 : List Int} {C0 : List (List Int)} (hG : W.heap[g]? = some (.cells #[.slice none 0 0, .slice none 0 0, .int .i64 0, .slice none 0 0] 69 (0, 0))) (hg : w.heap.size ≤ g) (hb : Below w.heap.size w W)
  (hn : Kd.R (Kd.int .i64) 3 W w.heap.size (fun _ => True) (.slice (some ⟨gn, 0, none⟩) nd0.length c0) nd0) (hc : Kd.S (Kd.slice 3 (Kd.int .i64)) 31 W w.heap.size (fun k_ => k_ ≠ gn) (.slice (some ⟨gc, 0, none⟩) C0.length c3) C0) :
  EnvB w g gn gc A2 nd0.length c0 c2 C0.length c3 tl fl ((((W.setCell ⟨g, 0, none⟩ (.slice (some ⟨gn, 0, none⟩) nd0.length c0)).setCell ⟨g, 1, none⟩ (.slice A2 tl.length c2)).setCell ⟨g, 2, none⟩ (.int .i64 fl)).setCell ⟨g, 3, none⟩ (.slice (some ⟨gc, 0, none⟩) C0.length c3)) nd0 C0 := by
 have h0 := blk_set hG 0 (.slice (some ⟨gn, 0, none⟩) nd0.length c0)
 have h1 := blk_set h0 1 (.slice A2 tl.length c2)
 have h2 := blk_set h1 2 (.int .i64 fl)
 have h3 := blk_set h2 3 (.slice (some ⟨gc, 0, none⟩) C0.length c3)
 refine ⟨h3.trans rfl, ?_, ?_, below_set (below_set (below_set (below_set hb hg) hg) hg) hg, hg⟩
 ·exact Kd.R_mono (Kd.R_tight rfl (Kd.R_set (Kd.R_set (Kd.R_set (Kd.R_set hn hG (by decide) 0 _) h0 (by decide) 1 _) h1 (by decide) 2 _) h2 (by decide) 3 _)) (fun k hk => by simpa [Value.ownBlock] using hk)
 ·exact Kd.S_set (Kd.S_set (Kd.S_set (Kd.S_set hc hG (by decide) 0 _) h0 (by decide) 1 _) h1 (by decide) 2 _) h2 (by decide) 3 _
end
theorem EnvB.toS {w : World} {g gn gc : Nat} {A2 : Option Addr} {nN c0 c2 nC c3 : Nat} {tl : List Int} {fl : Int} {W : World} {nd : List Int} {C : List (List Int)} (h : EnvB w g gn gc A2 nN c0 c2 nC c3 tl fl W nd C) (ht : Kd.C (Kd.int .i64) w A2 tl.length tl) :
  EnvS w (fun k => k ≠ gn ∧ k < W.heap.size) g gn gc nd tl fl c0 c2 c3 A2 nC W C := by
 have hl := h.lenN
 subst hl
 exact ⟨h.bk, Kd.R_mono h.n (fun k hk h2 => h2.1 hk), ht, Kd.S_mono (Kd.S_bound h.c) (fun k hk => ⟨hk.1, hk.2.2.1⟩), h.b⟩
theorem EnvS.grown {w : World} {okc : Nat → Prop} {g gn gc : Nat} {nd tl : List Int} {full : Int} {c0 c1 c3 : Nat} {A1 : Option Addr} {nC : Nat} {W W1 : World} {C : List (List Int)} (h : EnvS w okc g gn gc nd tl full c0 c1 c3 A1 nC W C) {row : Option Nat} (hb : Below w.heap.size w W1) (hg : W.grownBy W1 row) (h1 : ∀ k, row = some k → ¬ okc k) (h2 : some gn ≠ row) (h3 : some g ≠ row) :
  EnvS w okc g gn gc nd tl full c0 c1 c3 A1 nC W1 C :=
 ⟨blk_grown h.bk hg h3, Kd.R_mono (Kd.R_grown (Kd.R_tight2 rfl h.n) hg (fun k hk e => h2 (by rw [← e]; exact hk.1.symm))) (fun k hk => hk.2), h.t, Kd.S_grown h.c hg (fun k hk e => h1 k e.symm hk), hb⟩
def BestPost (w : World) (r1 : List Int) (r2 r3 : Int) (e : Ending) (w' : World) : Prop := ∃ v0_ : Value, e = .returned (.tuple #[v0_, .int .i64 r2, .int .i64 r3]) ∧ Kd.R (Kd.int .i64) 3 w' w.heap.size (fun _ => True) v0_ r1 ∧ Below w.heap.size w w'

set_option maxHeartbeats 32000000 in
set_option maxRecDepth 100000 in
theorem precedence_Best.calls_ (k : Nat) (n : Int) (A1 : Option Addr) (c1 : Nat) (l : List S47) (A2 : Option Addr) (c2 : Nat) (tl : List Int) (r1 : List Int) (r2 r3 : Int) (w : World) (hr1 : Kd.C k47 w A1 l.length l) (hc1 : l.length ≤ c1) (hr2 : Kd.C (Kd.int .i64) w A2 tl.length tl) (hc2 : tl.length ≤ c2) (h : precedence_Best.f k n l tl = some (r1, r2, r3)) :
  Calls Try.prog 28 #[.int .i64 n, .slice A1 l.length c1, .slice A2 tl.length c2] w (BestPost w r1 r2 r3) := by
 have HR1 := aK hr1
 have HC1 := aK hc1
 have HR2 := aK hr2
 have hu69 := Try.underlying69
 have hu47 := Try.underlying47
 clear hr1 hc1 hr2 hc2
 have HB := aK (Below.refl w.heap.size w)
 unfold precedence_Best.f at h
 obtain ⟨e, he, H⟩ := oB_ h
 have HEV := aK he
 clear h he
 by_cases z : e = 0
 ·rw [if_pos z] at H; subst z
  by_cases z1 : (tl.length : Int) = n
  ·rw [if_pos z1] at H
   have z1b : ((tl.length : Int) != n) = false := bne_eq_false_iff_eq.mpr z1
   by_cases z2 : n > 16
   ·rw [if_pos z2] at H
    simp only [Option.some.injEq, Prod.mk.injEq] at H
    obtain ⟨rfl, rfl, rfl⟩ := H
    have z2b : decide (n > 16) = true := decide_eq_true z2
    have z2c : decide (16 < n) = true := decide_eq_true z2
    clear z1 z2
    go_enter Try.func28, Try.ntmps28
    go_wp2_with (go_at_call 20; go_must ((with_reducible refine (precedence_Valid.calls k n _ _ l 0 _ ?s1 ?s2 HEV.out).mono ?_); (case s1 => exact HR1.out); (case s2 => exact HC1.out); rintro e w8 ⟨rfl, hb⟩; have n_ := aK hb; clear HB hb; have HB := n_; clear n_))
    go_ret3
    exact ⟨_, rfl, Kd.R_nil _ _ _ _ _, HB.out⟩
   ·rw [if_neg z2] at H
    have z2b : decide (n > 16) = false := decide_eq_false z2
    have z2c : decide (16 < n) = false := decide_eq_false z2
    obtain ⟨⟨o1, e1⟩, ho, H⟩ := oB_ H
    have HO1 := aK ho
    dsimp only at H
    by_cases z3 : e1 = 0
    ·rw [if_pos z3] at H; subst z3
     by_cases hc : (0 ≤ n ∧ n.toNat ≤ 1000000) ∧ 0 ≤ shl .i64 1 n ∧ (shl .i64 1 n).toNat ≤ 1000000
     ·rw [if_pos hc] at H
      obtain ⟨hcn, hcm⟩ := hc
      obtain ⟨M, hM⟩ : ∃ M : Int, shl .i64 1 n = M := ⟨_, rfl⟩
      rw [hM] at H hcm
      have hM_ : wrap64 (2 ^ min n.toNat 64) = M := by rw [← hM]; unfold shl; rw [Int.one_mul, i64_w]; rfl
      have hM2_ : IntKind.i64.wrap (2 ^ min n.toNat 64) = M := by rw [i64_w]; exact hM_
      have HZ := aK hcn; have HMM := aK hcm
      have hn0 := eq_true hcn.1
      obtain ⟨nd0, hnd0⟩ : ∃ y : List Int, y = List.replicate n.toNat 0 := ⟨_, rfl⟩
      obtain ⟨C0, hC0⟩ : ∃ y : List (List Int), y = List.replicate n.toNat [] := ⟨_, rfl⟩
      rw [← hnd0, ← hC0] at H; have HY := aK hnd0; have HX := aK hC0
      obtain ⟨Cf, hCf, H⟩ := oB_ H
      obtain ⟨nd, hnd, H⟩ := oB_ H
      obtain ⟨⟨ro, rc⟩, hro, H⟩ := oB_ H
      simp only [Option.some.injEq, Prod.mk.injEq] at H
      obtain ⟨rfl, rfl, rfl⟩ := H
      have HCF := aK hCf; have HND := aK hnd; have HRO := aK hro; clear z1 z2 hcn hcm hM hnd0 hC0 hCf hnd hro ho
      go_enter Try.func28, Try.ntmps28
      go_wp2_with (first | (go_at_call 20; go_must ((with_reducible refine (precedence_Valid.calls k n _ _ l 0 _ ?s1 ?s2 HEV.out).mono ?_); (case s1 => exact HR1.out); (case s2 => exact HC1.out); rintro e w7 ⟨rfl, hb⟩; have n_ := aK hb; clear HB hb; have HB := n_; clear n_)) | (go_at_call 25; go_must ((with_reducible refine (precedence_Order.calls k n _ _ l _ _ _ ?s1 ?s2 HO1.out).mono ?_); (case s1 => exact Kd.C_below HR1.out HB.out); (case s2 => exact HC1.out); rintro e w8 ⟨v0, rfl, hv, hb⟩; have n_ := aK (bD_ (bT_ HB.out hb)); clear HB hb hv; have HB := n_; clear n_)))
      refine start_ (n := 11) (S := fun w' => True) (ds := [10]) #[false, false, false, false, false, false, false, false, false, false, false] (by kernel_rfl) rfl rfl trivial (fun hHeld => ?_)
      generalize w8.drew = wd at HB hHeld ⊢
      refine pure_ (i := 0) (N := some 45) (v := ?_) (a' := ?_) #[true, false, false, false, false, false, false, false, false, false, false] rfl rfl (by kernel_rfl) (fun _ _ _ h => h) (Or.inl ⟨by rfl, ?_⟩) ?_ ?_
      rotate_left; ·intro w'; go_simp; with_reducible rfl
      rotate_left; ·simp only [Act.put, sA_, sZ_, sS_, i64_w, i32_w]; rfl
      refine pure_ (i := 2) (N := some 47) (v := ?_) (a' := ?_) #[true, false, true, false, false, false, false, false, false, false, false] rfl rfl (by kernel_rfl) (fun _ _ _ h => h) (Or.inl ⟨by rfl, ?_⟩) ?_ ?_
      rotate_left; ·intro w'; go_simp; with_reducible rfl
      rotate_left; ·simp only [Act.put, sA_, sZ_, sS_, i64_w, i32_w]; rfl
      refine pure_ (i := 3) (N := some 48) (v := ?_) (a' := ?_) #[true, false, true, true, false, false, false, false, false, false, false] rfl rfl (by kernel_rfl) (fun _ _ _ h => h) (Or.inl ⟨by rfl, ?_⟩) ?_ ?_
      rotate_left; ·intro w'; go_simp; with_reducible rfl
      rotate_left; ·simp only [Act.put, sA_, sZ_, sS_, i64_w, i32_w]; rfl
      refine pure_ (i := 4) (N := some 49) (v := ?_) (a' := ?_) #[true, false, true, true, true, false, false, false, false, false, false] rfl rfl (by kernel_rfl) (fun _ _ _ h => h) (Or.inl ⟨by rfl, ?_⟩) ?_ ?_
      rotate_left; ·intro w'; go_simp; with_reducible rfl
      rotate_left; ·simp only [Act.put, sA_, sZ_, sS_, i64_w, i32_w]; rfl
      refine pure_ (i := 5) (N := some 50) (v := ?_) (a' := ?_) #[true, false, true, true, true, true, false, false, false, false, false] rfl rfl (by kernel_rfl) (fun _ _ _ h => h) (Or.inl ⟨by rfl, ?_⟩) ?_ ?_
      rotate_left; ·intro w'; go_simp; with_reducible rfl
      rotate_left; ·simp only [Act.put, sA_, sZ_, sS_, i64_w, i32_w]; rfl
      refine pure_ (i := 6) (N := some 51) (v := ?_) (a' := ?_) #[true, false, true, true, true, true, true, false, false, false, false] rfl rfl (by kernel_rfl) (fun _ _ _ h => h) (Or.inl ⟨by rfl, ?_⟩) ?_ ?_
      rotate_left; ·intro w'; go_simp; with_reducible rfl
      rotate_left; ·simp only [Act.put, sA_, sZ_, sS_, i64_w, i32_w]; rfl
      refine join_ (σ := Nat × Nat × Nat × Nat × Nat) 1 #[true, true, true, true, true, true, true, true, true, true, false] (fun s_ => [(46, .slice (some ⟨s_.1, 0, none⟩) nd0.length s_.2.1), (52, .slice (some ⟨s_.2.2.1, 0, none⟩) C0.length s_.2.2.2.1), (12, .pointer (some ⟨s_.2.2.2.2, 0, none⟩)), (53, .agg #[.slice (some ⟨s_.1, 0, none⟩) nd0.length s_.2.1, .slice A2 tl.length c2, .int .i64 (wrap64 (M - 1)), .slice (some ⟨s_.2.2.1, 0, none⟩) C0.length s_.2.2.2.1])]) (fun s_ w' => Aside0 (Below w.heap.size w w') ∧ Aside0 (Kd.R (Kd.int .i64) 3 w' w.heap.size (fun _ => True) (.slice (some ⟨s_.1, 0, none⟩) nd0.length s_.2.1) nd0) ∧ Aside0 (Kd.S (Kd.slice 3 (Kd.int .i64)) 31 w' w.heap.size (fun k_ => k_ ≠ s_.1) (.slice (some ⟨s_.2.2.1, 0, none⟩) C0.length s_.2.2.2.1) C0) ∧ Aside0 (w'.heap[s_.2.2.2.2]? = some (.cells #[.slice none 0 0, .slice none 0 0, .int .i64 0, .slice none 0 0] 69 (0, 0)) ∧ w.heap.size ≤ s_.2.2.2.2)) ?_ ?_
      rotate_left
      ·intro hJ1_7_9
       refine join_ (σ := Nat × Nat × Nat × Nat) 2 #[true, true, true, true, true, true, true, true, true, false, false] (fun s_ => [(46, .slice (some ⟨s_.1, 0, none⟩) nd0.length s_.2.1), (52, .slice (some ⟨s_.2.2.1, 0, none⟩) C0.length s_.2.2.2), (53, .agg #[.slice (some ⟨s_.1, 0, none⟩) nd0.length s_.2.1, .slice A2 tl.length c2, .int .i64 (wrap64 (M - 1)), .slice (some ⟨s_.2.2.1, 0, none⟩) C0.length s_.2.2.2])]) (fun s_ w' => Aside0 (Below w.heap.size w w') ∧ Aside0 (Kd.R (Kd.int .i64) 3 w' w.heap.size (fun _ => True) (.slice (some ⟨s_.1, 0, none⟩) nd0.length s_.2.1) nd0) ∧ Aside0 (Kd.S (Kd.slice 3 (Kd.int .i64)) 31 w' w.heap.size (fun k_ => k_ ≠ s_.1) (.slice (some ⟨s_.2.2.1, 0, none⟩) C0.length s_.2.2.2) C0)) ?_ ?_
       rotate_left
       ·intro hJ1_7
        refine join_ (σ := Nat × Nat × Nat) 3 #[true, true, true, true, true, true, true, false, false, true, false] (fun s_ => [(46, .slice (some ⟨s_.1, 0, none⟩) nd0.length s_.2.1), (12, .pointer (some ⟨s_.2.2, 0, none⟩))]) (fun s_ w' => Aside0 (Below w.heap.size w w') ∧ Aside0 (Kd.R (Kd.int .i64) 3 w' w.heap.size (fun _ => True) (.slice (some ⟨s_.1, 0, none⟩) nd0.length s_.2.1) nd0) ∧ Aside0 (w'.heap[s_.2.2]? = some (.cells #[.slice none 0 0, .slice none 0 0, .int .i64 0, .slice none 0 0] 69 (0, 0)) ∧ w.heap.size ≤ s_.2.2)) ?_ ?_
        rotate_left
        ·intro hJ1_9
         refine join_ (σ := Nat × Nat × Nat) 3 #[true, false, true, true, true, true, true, true, false, true, false] (fun s_ => [(52, .slice (some ⟨s_.1, 0, none⟩) C0.length s_.2.1), (12, .pointer (some ⟨s_.2.2, 0, none⟩))]) (fun s_ w' => Aside0 (Below w.heap.size w w') ∧ Aside0 (Kd.S (Kd.slice 3 (Kd.int .i64)) 31 w' w.heap.size (fun _ => True) (.slice (some ⟨s_.1, 0, none⟩) C0.length s_.2.1) C0) ∧ Aside0 (w'.heap[s_.2.2]? = some (.cells #[.slice none 0 0, .slice none 0 0, .int .i64 0, .slice none 0 0] 69 (0, 0)) ∧ w.heap.size ≤ s_.2.2)) ?_ ?_
         rotate_left
         ·intro hJ7_9
          refine join_ (σ := Nat × Nat) 4 #[true, true, true, true, true, true, true, false, false, false, false] (fun s_ => [(46, .slice (some ⟨s_.1, 0, none⟩) nd0.length s_.2)]) (fun s_ w' => Aside0 (Below w.heap.size w w') ∧ Aside0 (Kd.R (Kd.int .i64) 3 w' w.heap.size (fun _ => True) (.slice (some ⟨s_.1, 0, none⟩) nd0.length s_.2) nd0)) ?_ ?_
          rotate_left
          ·intro hJ1
           refine join_ (σ := Nat × Nat) 4 #[true, false, true, true, true, true, true, true, false, false, false] (fun s_ => [(52, .slice (some ⟨s_.1, 0, none⟩) C0.length s_.2)]) (fun s_ w' => Aside0 (Below w.heap.size w w') ∧ Aside0 (Kd.S (Kd.slice 3 (Kd.int .i64)) 31 w' w.heap.size (fun _ => True) (.slice (some ⟨s_.1, 0, none⟩) C0.length s_.2) C0)) ?_ ?_
           rotate_left
           ·intro hJ7
            refine join_ (σ := Nat) 4 #[true, false, true, true, true, true, true, false, false, true, false] (fun s_ => [(12, .pointer (some ⟨s_, 0, none⟩))]) (fun s_ w' => Aside0 (Below w.heap.size w w') ∧ Aside0 (w'.heap[s_]? = some (.cells #[.slice none 0 0, .slice none 0 0, .int .i64 0, .slice none 0 0] 69 (0, 0)) ∧ w.heap.size ≤ s_)) ?_ ?_
            rotate_left
            ·intro hJ9
             refine three_ (i := 1) (j := 7) (k := 9) (Ni := some 46) (Nj := some 52) (Nk := some 12) #[true, true, true, true, true, true, true, false, false, false, false] #[true, false, true, true, true, true, true, true, false, false, false] #[true, false, true, true, true, true, true, false, false, true, false] rfl rfl rfl rfl rfl rfl (by kernel_rfl) (by decide) (by decide) (by decide) (fun K hK => ?_) (fun K hK => ?_) (fun K hK => ?_)
             ·skip
              refine Kd.R_make_step (Kd.int .i64) _ 3 (by rfl) (N := 46) rfl 31 _ _ rfl n rfl rfl Try.underlying31 (.int .i64 0) 8 info3 rfl (by decide) (by omega) 0 (ok := fun _ => True) (okp := fun _ => True) rfl (fun _ hk => hk) trivial HZ.out.1 (by have := HZ.out.2; omega) (Below.refl _ _) (Nat.le_refl _) ?_
              intro vq wM ho hb hg_ hnew_; rw [← HY.out] at ho
              obtain ⟨gn, hgn, _⟩ := hnew_
              obtain ⟨c0, eq_⟩ := R_own_form ho hgn
              subst eq_; clear hg_ hgn
              have mN := aK (Kd.R_lower ho (bZ_ HB.out))
              have nB := aK (bT_ HB.out hb)
              clear HB; have HB := nB; have HN := mN; clear mN nB; clear ho hb
              refine hK.out _ _ trivial (fun hHeld => ?_)
              clear hK K
              refine norm_ (a' := ?_) ?_ ?_
              rotate_left
              ·show Act.put _ (some 46) _ = _
               simp only [Act.put, sA_, sZ_, sS_, i64_w, i32_w]; rfl
              exact norm_ (by first | (simp only [putAll, Act.put, sA_, sZ_, sS_]; done) | (simp only [putAll, Act.put, sA_, sZ_, sS_]; rfl)) (hJ1 (gn, c0) _ ⟨HB, HN⟩)
             ·skip
              refine Kd.S_make_step (Kd.slice 3 (Kd.int .i64)) _ 31 (by rfl) (N := 52) rfl 58 _ _ rfl n rfl rfl Try.underlying58 (.slice none 0 0) 24 info31_ rfl (by decide) (by omega) [] (ok := fun _ => True) (okp := fun _ => True) ⟨_, rfl, Kd.R_nil _ _ _ _ _⟩ (fun _ hk => hk) trivial HZ.out.1 (by have := HZ.out.2; omega) (Below.refl _ _) (Nat.le_refl _) ?_
              intro vq wM ho hb hg_ hnew_; rw [← HX.out] at ho
              obtain ⟨gc, hgc, _⟩ := hnew_
              obtain ⟨c3, eq_⟩ := R_own_form (Kd.S_R ho) hgc
              subst eq_; clear hg_ hgc
              have mN := aK (Kd.S_lower ho (bZ_ HB.out))
              have nB := aK (bT_ HB.out hb)
              clear HB; have HB := nB; have HC := mN; clear mN nB; clear ho hb
              refine hK.out _ _ trivial (fun hHeld => ?_)
              clear hK K
              refine norm_ (a' := ?_) ?_ ?_
              rotate_left
              ·show Act.put _ (some 52) _ = _
               simp only [Act.put, sA_, sZ_, sS_, i64_w, i32_w]; rfl
              exact norm_ (by first | (simp only [putAll, Act.put, sA_, sZ_, sS_]; done) | (simp only [putAll, Act.put, sA_, sZ_, sS_]; rfl)) (hJ7 (gc, c3) _ ⟨HB, HC⟩)
             ·skip
              refine box_step (by rfl) (N := 12) rfl (cs := #[.slice none 0 0, .slice none 0 0, .int .i64 0, .slice none 0 0]) (t := 69) ?hr ?_
              (case hr => first | (go_simp; done) | (go_simp; rfl))
              intro g hg wM hbox hb
              have mN := aK (And.intro hbox (by rw [hg]; exact bZ_ HB.out : w.heap.size ≤ g))
              have nB := aK (bT_ HB.out hb)
              clear HB; have HB := nB; have HG := mN; clear mN nB; clear hg hbox hb
              refine hK.out _ _ trivial (fun hHeld => ?_)
              clear hK K
              refine norm_ (a' := ?_) ?_ ?_
              rotate_left
              ·show Act.put _ (some 12) _ = _
               simp only [Act.put, sA_, sZ_, sS_, i64_w, i32_w]; rfl
              exact norm_ (by first | (simp only [putAll, Act.put, sA_, sZ_, sS_]; done) | (simp only [putAll, Act.put, sA_, sZ_, sS_]; rfl)) (hJ9 g _ ⟨HB, HG⟩)
            ·skip
             rintro g wN ⟨HB, HG⟩; have hHeld := trivial
             refine norm_ (a' := ?_) ?_ ?_
             rotate_left; ·simp only [putAll, Act.put, sA_, sZ_, sS_]; rfl
             refine two_ (i := 1) (j := 7) (Ni := some 46) (Nj := some 52) #[true, true, true, true, true, true, true, false, false, true, false] #[true, false, true, true, true, true, true, true, false, true, false] rfl rfl rfl rfl (by kernel_rfl) (by decide) (by decide) (fun K hK => ?_) (fun K hK => ?_)
             ·skip
              refine Kd.R_make_step (Kd.int .i64) _ 3 (by rfl) (N := 46) rfl 31 _ _ rfl n rfl rfl Try.underlying31 (.int .i64 0) 8 info3 rfl (by decide) (by omega) 0 (ok := fun _ => True) (okp := fun _ => True) rfl (fun _ hk => hk) trivial HZ.out.1 (by have := HZ.out.2; omega) (Below.refl _ _) (Nat.le_refl _) ?_
              intro vq wM ho hb hg_ hnew_; rw [← HY.out] at ho
              obtain ⟨gn, hgn, _⟩ := hnew_
              obtain ⟨c0, eq_⟩ := R_own_form ho hgn
              subst eq_; clear hg_ hgn
              have mN := aK (Kd.R_lower ho (bZ_ HB.out))
              have nG := aK (And.intro ((hb.block _ (blk_lt HG.out.1)).trans HG.out.1) HG.out.2)
              have nB := aK (bT_ HB.out hb)
              clear HB HG; have HG := nG; have HB := nB; have HN := mN; clear mN nG nB; clear ho hb
              refine hK.out _ _ trivial (fun hHeld => ?_)
              clear hK K
              refine norm_ (a' := ?_) ?_ ?_
              rotate_left
              ·show Act.put _ (some 46) _ = _
               simp only [Act.put, sA_, sZ_, sS_, i64_w, i32_w]; rfl
              exact norm_ (by first | (simp only [putAll, Act.put, sA_, sZ_, sS_]; done) | (simp only [putAll, Act.put, sA_, sZ_, sS_]; rfl)) (hJ1_9 (gn, c0, g) _ ⟨HB, HN, HG⟩)
             ·skip
              refine Kd.S_make_step (Kd.slice 3 (Kd.int .i64)) _ 31 (by rfl) (N := 52) rfl 58 _ _ rfl n rfl rfl Try.underlying58 (.slice none 0 0) 24 info31_ rfl (by decide) (by omega) [] (ok := fun _ => True) (okp := fun _ => True) ⟨_, rfl, Kd.R_nil _ _ _ _ _⟩ (fun _ hk => hk) trivial HZ.out.1 (by have := HZ.out.2; omega) (Below.refl _ _) (Nat.le_refl _) ?_
              intro vq wM ho hb hg_ hnew_; rw [← HX.out] at ho
              obtain ⟨gc, hgc, _⟩ := hnew_
              obtain ⟨c3, eq_⟩ := R_own_form (Kd.S_R ho) hgc
              subst eq_; clear hg_ hgc
              have mN := aK (Kd.S_lower ho (bZ_ HB.out))
              have nG := aK (And.intro ((hb.block _ (blk_lt HG.out.1)).trans HG.out.1) HG.out.2)
              have nB := aK (bT_ HB.out hb)
              clear HB HG; have HG := nG; have HB := nB; have HC := mN; clear mN nG nB; clear ho hb
              refine hK.out _ _ trivial (fun hHeld => ?_)
              clear hK K
              refine norm_ (a' := ?_) ?_ ?_
              rotate_left
              ·show Act.put _ (some 52) _ = _
               simp only [Act.put, sA_, sZ_, sS_, i64_w, i32_w]; rfl
              exact norm_ (by first | (simp only [putAll, Act.put, sA_, sZ_, sS_]; done) | (simp only [putAll, Act.put, sA_, sZ_, sS_]; rfl)) (hJ7_9 (gc, c3, g) _ ⟨HB, HC, HG⟩)
           ·skip
            rintro ⟨gc, c3⟩ wN ⟨HB, HC⟩; have hHeld := trivial
            refine norm_ (a' := ?_) ?_ ?_
            rotate_left; ·simp only [putAll, Act.put, sA_, sZ_, sS_]; rfl
            refine two_ (i := 1) (j := 9) (Ni := some 46) (Nj := some 12) #[true, true, true, true, true, true, true, true, false, false, false] #[true, false, true, true, true, true, true, true, false, true, false] rfl rfl rfl rfl (by kernel_rfl) (by decide) (by decide) (fun K hK => ?_) (fun K hK => ?_)
            ·skip
             refine Kd.R_make_step (Kd.int .i64) _ 3 (by rfl) (N := 46) rfl 31 _ _ rfl n rfl rfl Try.underlying31 (.int .i64 0) 8 info3 rfl (by decide) (by omega) 0 (ok := fun _ => True) (okp := fun _ => True) rfl (fun _ hk => hk) trivial HZ.out.1 (by have := HZ.out.2; omega) (Below.refl _ _) (Nat.le_refl _) ?_
             intro vq wM ho hb hg_ hnew_; rw [← HY.out] at ho
             obtain ⟨gn, hgn, _⟩ := hnew_
             obtain ⟨c0, eq_⟩ := R_own_form ho hgn
             subst eq_; clear hg_ hgn
             have mN := aK (Kd.R_lower ho (bZ_ HB.out))
             have nC := aK (Kd.S_mono (Kd.S_elder' HC.out (Kd.R_base ho) hb) (fun _ hk e => hk.2 (by rw [e]; rfl)) : Kd.S (Kd.slice 3 (Kd.int .i64)) 31 wM w.heap.size (fun k_ => k_ ≠ gn) (.slice (some ⟨gc, 0, none⟩) C0.length c3) C0)
             have nB := aK (bT_ HB.out hb)
             clear HB HC; have HC := nC; have HB := nB; have HN := mN; clear mN nC nB; clear ho hb
             refine hK.out _ _ trivial (fun hHeld => ?_)
             clear hK K
             refine norm_ (a' := ?_) ?_ ?_
             rotate_left
             ·show Act.put _ (some 46) _ = _
              simp only [Act.put, sA_, sZ_, sS_, i64_w, i32_w]; rfl
             refine pure_ (i := 8) (N := some 53) (v := ?_) (a' := ?_) #[true, true, true, true, true, true, true, true, true, false, false] rfl rfl (by kernel_rfl) (fun _ _ _ h => h) (Or.inl ⟨by rfl, ?_⟩) ?_ ?_
             rotate_left; ·intro w'; go_simp; with_reducible rfl
             rotate_left; ·simp only [Act.put, sA_, sZ_, sS_, i64_w, i32_w]; rfl
             exact norm_ (by first | (simp only [putAll, Act.put, sA_, sZ_, sS_]; done) | (simp only [putAll, Act.put, sA_, sZ_, sS_]; rfl)) (hJ1_7 (gn, c0, gc, c3) _ ⟨HB, HN, HC⟩)
            ·skip
             refine box_step (by rfl) (N := 12) rfl (cs := #[.slice none 0 0, .slice none 0 0, .int .i64 0, .slice none 0 0]) (t := 69) ?hr ?_
             (case hr => first | (go_simp; done) | (go_simp; rfl))
             intro g hg wM hbox hb
             have mN := aK (And.intro hbox (by rw [hg]; exact bZ_ HB.out : w.heap.size ≤ g))
             have nC := aK (Kd.S_below HC.out hb)
             have nB := aK (bT_ HB.out hb)
             clear HB HC; have HC := nC; have HB := nB; have HG := mN; clear mN nC nB; clear hg hbox hb
             refine hK.out _ _ trivial (fun hHeld => ?_)
             clear hK K
             refine norm_ (a' := ?_) ?_ ?_
             rotate_left
             ·show Act.put _ (some 12) _ = _
              simp only [Act.put, sA_, sZ_, sS_, i64_w, i32_w]; rfl
             exact norm_ (by first | (simp only [putAll, Act.put, sA_, sZ_, sS_]; done) | (simp only [putAll, Act.put, sA_, sZ_, sS_]; rfl)) (hJ7_9 (gc, c3, g) _ ⟨HB, HC, HG⟩)
          ·skip
           rintro ⟨gn, c0⟩ wN ⟨HB, HN⟩; have hHeld := trivial
           refine norm_ (a' := ?_) ?_ ?_
           rotate_left; ·simp only [putAll, Act.put, sA_, sZ_, sS_]; rfl
           refine two_ (i := 7) (j := 9) (Ni := some 52) (Nj := some 12) #[true, true, true, true, true, true, true, true, false, false, false] #[true, true, true, true, true, true, true, false, false, true, false] rfl rfl rfl rfl (by kernel_rfl) (by decide) (by decide) (fun K hK => ?_) (fun K hK => ?_)
           ·skip
            refine Kd.S_make_step (Kd.slice 3 (Kd.int .i64)) _ 31 (by rfl) (N := 52) rfl 58 _ _ rfl n rfl rfl Try.underlying58 (.slice none 0 0) 24 info31_ rfl (by decide) (by omega) [] (ok := fun _ => True) (okp := fun _ => True) ⟨_, rfl, Kd.R_nil _ _ _ _ _⟩ (fun _ hk => hk) trivial HZ.out.1 (by have := HZ.out.2; omega) (Below.refl _ _) (Nat.le_refl _) ?_
            intro vq wM ho hb hg_ hnew_; rw [← HX.out] at ho
            obtain ⟨gc, hgc, _⟩ := hnew_
            obtain ⟨c3, eq_⟩ := R_own_form (Kd.S_R ho) hgc
            subst eq_; clear hg_ hgc
            have mN := aK (Kd.S_mono (Kd.S_lower (Kd.S_new' ho (Kd.R_lt HN.out)) (bZ_ HB.out)) (fun _ hk e => hk.2 (by rw [e]; rfl)) : Kd.S (Kd.slice 3 (Kd.int .i64)) 31 wM w.heap.size (fun k_ => k_ ≠ gn) (.slice (some ⟨gc, 0, none⟩) C0.length c3) C0)
            have nN := aK (Kd.R_below HN.out hb)
            have nB := aK (bT_ HB.out hb)
            clear HB HN; have HN := nN; have HB := nB; have HC := mN; clear mN nN nB; clear ho hb
            refine hK.out _ _ trivial (fun hHeld => ?_)
            clear hK K
            refine norm_ (a' := ?_) ?_ ?_
            rotate_left
            ·show Act.put _ (some 52) _ = _
             simp only [Act.put, sA_, sZ_, sS_, i64_w, i32_w]; rfl
            refine pure_ (i := 8) (N := some 53) (v := ?_) (a' := ?_) #[true, true, true, true, true, true, true, true, true, false, false] rfl rfl (by kernel_rfl) (fun _ _ _ h => h) (Or.inl ⟨by rfl, ?_⟩) ?_ ?_
            rotate_left; ·intro w'; go_simp; with_reducible rfl
            rotate_left; ·simp only [Act.put, sA_, sZ_, sS_, i64_w, i32_w]; rfl
            exact norm_ (by first | (simp only [putAll, Act.put, sA_, sZ_, sS_]; done) | (simp only [putAll, Act.put, sA_, sZ_, sS_]; rfl)) (hJ1_7 (gn, c0, gc, c3) _ ⟨HB, HN, HC⟩)
           ·skip
            refine box_step (by rfl) (N := 12) rfl (cs := #[.slice none 0 0, .slice none 0 0, .int .i64 0, .slice none 0 0]) (t := 69) ?hr ?_
            (case hr => first | (go_simp; done) | (go_simp; rfl))
            intro g hg wM hbox hb
            have mN := aK (And.intro hbox (by rw [hg]; exact bZ_ HB.out : w.heap.size ≤ g))
            have nN := aK (Kd.R_below HN.out hb)
            have nB := aK (bT_ HB.out hb)
            clear HB HN; have HN := nN; have HB := nB; have HG := mN; clear mN nN nB; clear hg hbox hb
            refine hK.out _ _ trivial (fun hHeld => ?_)
            clear hK K
            refine norm_ (a' := ?_) ?_ ?_
            rotate_left
            ·show Act.put _ (some 12) _ = _
             simp only [Act.put, sA_, sZ_, sS_, i64_w, i32_w]; rfl
            exact norm_ (by first | (simp only [putAll, Act.put, sA_, sZ_, sS_]; done) | (simp only [putAll, Act.put, sA_, sZ_, sS_]; rfl)) (hJ1_9 (gn, c0, g) _ ⟨HB, HN, HG⟩)
         ·skip
          rintro ⟨gc, c3, g⟩ wN ⟨HB, HC, HG⟩; have hHeld := trivial
          refine norm_ (a' := ?_) ?_ ?_
          rotate_left; ·simp only [putAll, Act.put, sA_, sZ_, sS_]; rfl
          refine one_ (i := 1) (N := some 46) #[true, true, true, true, true, true, true, true, false, true, false] rfl rfl (by kernel_rfl) (by decide) (fun K hK => ?_)
          refine Kd.R_make_step (Kd.int .i64) _ 3 (by rfl) (N := 46) rfl 31 _ _ rfl n rfl rfl Try.underlying31 (.int .i64 0) 8 info3 rfl (by decide) (by omega) 0 (ok := fun _ => True) (okp := fun _ => True) rfl (fun _ hk => hk) trivial HZ.out.1 (by have := HZ.out.2; omega) (Below.refl _ _) (Nat.le_refl _) ?_
          intro vq wM ho hb hg_ hnew_; rw [← HY.out] at ho
          obtain ⟨gn, hgn, _⟩ := hnew_
          obtain ⟨c0, eq_⟩ := R_own_form ho hgn
          subst eq_; clear hg_ hgn
          have mN := aK (Kd.R_lower ho (bZ_ HB.out))
          have nC := aK (Kd.S_mono (Kd.S_elder' HC.out (Kd.R_base ho) hb) (fun _ hk e => hk.2 (by rw [e]; rfl)) : Kd.S (Kd.slice 3 (Kd.int .i64)) 31 wM w.heap.size (fun k_ => k_ ≠ gn) (.slice (some ⟨gc, 0, none⟩) C0.length c3) C0)
          have nG := aK (And.intro ((hb.block _ (blk_lt HG.out.1)).trans HG.out.1) HG.out.2)
          have nB := aK (bT_ HB.out hb)
          clear HB HC HG; have HC := nC; have HG := nG; have HB := nB; have HN := mN; clear mN nC nG nB; clear ho hb
          refine hK.out _ _ trivial (fun hHeld => ?_)
          clear hK K
          refine norm_ (a' := ?_) ?_ ?_
          rotate_left
          ·show Act.put _ (some 46) _ = _
           simp only [Act.put, sA_, sZ_, sS_, i64_w, i32_w]; rfl
          refine pure_ (i := 8) (N := some 53) (v := ?_) (a' := ?_) #[true, true, true, true, true, true, true, true, true, true, false] rfl rfl (by kernel_rfl) (fun _ _ _ h => h) (Or.inl ⟨by rfl, ?_⟩) ?_ ?_
          rotate_left; ·intro w'; go_simp; with_reducible rfl
          rotate_left; ·simp only [Act.put, sA_, sZ_, sS_, i64_w, i32_w]; rfl
          exact norm_ (by first | (simp only [putAll, Act.put, sA_, sZ_, sS_]; done) | (simp only [putAll, Act.put, sA_, sZ_, sS_]; rfl)) (hJ1_7_9 (gn, c0, gc, c3, g) _ ⟨HB, HN, HC, HG⟩)
        ·skip
         rintro ⟨gn, c0, g⟩ wN ⟨HB, HN, HG⟩; have hHeld := trivial
         refine norm_ (a' := ?_) ?_ ?_
         rotate_left; ·simp only [putAll, Act.put, sA_, sZ_, sS_]; rfl
         refine one_ (i := 7) (N := some 52) #[true, true, true, true, true, true, true, true, false, true, false] rfl rfl (by kernel_rfl) (by decide) (fun K hK => ?_)
         refine Kd.S_make_step (Kd.slice 3 (Kd.int .i64)) _ 31 (by rfl) (N := 52) rfl 58 _ _ rfl n rfl rfl Try.underlying58 (.slice none 0 0) 24 info31_ rfl (by decide) (by omega) [] (ok := fun _ => True) (okp := fun _ => True) ⟨_, rfl, Kd.R_nil _ _ _ _ _⟩ (fun _ hk => hk) trivial HZ.out.1 (by have := HZ.out.2; omega) (Below.refl _ _) (Nat.le_refl _) ?_
         intro vq wM ho hb hg_ hnew_; rw [← HX.out] at ho
         obtain ⟨gc, hgc, _⟩ := hnew_
         obtain ⟨c3, eq_⟩ := R_own_form (Kd.S_R ho) hgc
         subst eq_; clear hg_ hgc
         have mN := aK (Kd.S_mono (Kd.S_lower (Kd.S_new' ho (Kd.R_lt HN.out)) (bZ_ HB.out)) (fun _ hk e => hk.2 (by rw [e]; rfl)) : Kd.S (Kd.slice 3 (Kd.int .i64)) 31 wM w.heap.size (fun k_ => k_ ≠ gn) (.slice (some ⟨gc, 0, none⟩) C0.length c3) C0)
         have nN := aK (Kd.R_below HN.out hb)
         have nG := aK (And.intro ((hb.block _ (blk_lt HG.out.1)).trans HG.out.1) HG.out.2)
         have nB := aK (bT_ HB.out hb)
         clear HB HN HG; have HN := nN; have HG := nG; have HB := nB; have HC := mN; clear mN nN nG nB; clear ho hb
         refine hK.out _ _ trivial (fun hHeld => ?_)
         clear hK K
         refine norm_ (a' := ?_) ?_ ?_
         rotate_left
         ·show Act.put _ (some 52) _ = _
          simp only [Act.put, sA_, sZ_, sS_, i64_w, i32_w]; rfl
         refine pure_ (i := 8) (N := some 53) (v := ?_) (a' := ?_) #[true, true, true, true, true, true, true, true, true, true, false] rfl rfl (by kernel_rfl) (fun _ _ _ h => h) (Or.inl ⟨by rfl, ?_⟩) ?_ ?_
         rotate_left; ·intro w'; go_simp; with_reducible rfl
         rotate_left; ·simp only [Act.put, sA_, sZ_, sS_, i64_w, i32_w]; rfl
         exact norm_ (by first | (simp only [putAll, Act.put, sA_, sZ_, sS_]; done) | (simp only [putAll, Act.put, sA_, sZ_, sS_]; rfl)) (hJ1_7_9 (gn, c0, gc, c3, g) _ ⟨HB, HN, HC, HG⟩)
       ·skip
        rintro ⟨gn, c0, gc, c3⟩ wN ⟨HB, HN, HC⟩; have hHeld := trivial
        refine norm_ (a' := ?_) ?_ ?_
        rotate_left; ·simp only [putAll, Act.put, sA_, sZ_, sS_]; rfl
        refine one_ (i := 9) (N := some 12) #[true, true, true, true, true, true, true, true, true, true, false] rfl rfl (by kernel_rfl) (by decide) (fun K hK => ?_)
        refine box_step (by rfl) (N := 12) rfl (cs := #[.slice none 0 0, .slice none 0 0, .int .i64 0, .slice none 0 0]) (t := 69) ?hr ?_
        (case hr => first | (go_simp; done) | (go_simp; rfl))
        intro g hg wM hbox hb
        have mN := aK (And.intro hbox (by rw [hg]; exact bZ_ HB.out : w.heap.size ≤ g))
        have nN := aK (Kd.R_below HN.out hb)
        have nC := aK (Kd.S_below HC.out hb)
        have nB := aK (bT_ HB.out hb)
        clear HB HN HC; have HN := nN; have HC := nC; have HB := nB; have HG := mN; clear mN nN nC nB; clear hg hbox hb
        refine hK.out _ _ trivial (fun hHeld => ?_)
        clear hK K
        refine norm_ (a' := ?_) ?_ ?_
        rotate_left
        ·show Act.put _ (some 12) _ = _
         simp only [Act.put, sA_, sZ_, sS_, i64_w, i32_w]; rfl
        exact norm_ (by first | (simp only [putAll, Act.put, sA_, sZ_, sS_]; done) | (simp only [putAll, Act.put, sA_, sZ_, sS_]; rfl)) (hJ1_7_9 (gn, c0, gc, c3, g) _ ⟨HB, HN, HC, HG⟩)
      rintro ⟨gn, c0, gc, c3, g⟩ wN ⟨HB, HN, HC, HG⟩; have hHeld := trivial
      refine norm_ (a' := ?_) ?_ ?_
      rotate_left; ·simp only [putAll, Act.put, sA_, sZ_, sS_]; rfl
      refine last_ (i := 10) (N := none) #[true, true, true, true, true, true, true, true, true, true, true] rfl rfl (by kernel_rfl) (by decide) (fun K hK => ?_)
      have hG := HG.out.1
      have hz0 := (blk_cell hG 0).trans (rfl : _ = some (Value.slice none 0 0))
      have hz1 := (blk_cell hG 1).trans (rfl : _ = some (Value.slice none 0 0))
      have hz2 := (blk_cell hG 2).trans (rfl : _ = some (Value.int .i64 0))
      have hz3 := (blk_cell hG 3).trans (rfl : _ = some (Value.slice none 0 0))
      have hf0 := blk_frozen hG 0
      have hf1 := blk_frozen hG 1
      have hf2 := blk_frozen hG 2
      have hf3 := blk_frozen hG 3
      have HE := aK (setAllS (A2 := A2) (c2 := c2) (tl := tl) (fl := wrap64 (M - 1)) HG.out.1 HG.out.2 HB.out HN.out HC.out)
      refine skip_ (w1 := (((wN.setCell ⟨g, 0, none⟩ (.slice (some ⟨gn, 0, none⟩) nd0.length c0)).setCell ⟨g, 1, none⟩ (.slice A2 tl.length c2)).setCell ⟨g, 2, none⟩ (.int .i64 (wrap64 (M - 1)))).setCell ⟨g, 3, none⟩ (.slice (some ⟨gc, 0, none⟩) C0.length c3)) (by rfl) rfl ?_ ?_
      ·go_simp
       try rfl
      clear hG hz0 hz1 hz2 hz3 hf0 hf1 hf2 hf3 HB HN HC HG
      generalize (((wN.setCell ⟨g, 0, none⟩ (.slice (some ⟨gn, 0, none⟩) nd0.length c0)).setCell ⟨g, 1, none⟩ (.slice A2 tl.length c2)).setCell ⟨g, 2, none⟩ (.int .i64 (wrap64 (M - 1)))).setCell ⟨g, 3, none⟩ (.slice (some ⟨gc, 0, none⟩) C0.length c3) = w5 at HE ⊢
      refine hK.out _ _ ?_
      clear hK K
      refine done_ (by kernel_rfl) ?_
      clear HB
      obtain ⟨nN, hnN⟩ : ∃ m, m = nd0.length := ⟨_, rfl⟩
      obtain ⟨nC, hnC⟩ : ∃ m, m = C0.length := ⟨_, rfl⟩
      rw [← hnN, ← hnC] at HE
      have hz3 := HE.out.z3
      clear hnN hnC; go_wp2
      go_loopg [57] k (fun kq v57 w' => ∃ (i : Int) (C : List (List Int)), v57 = .int .i64 i ∧ Aside0 (bst.l0 M kq i C = some Cf) ∧ Aside0 (kq ≤ k) ∧ Aside0 (EnvB w g gn gc A2 nN c0 c2 nC c3 tl (wrap64 (M - 1)) w' nd0 C))
      case atStart => exact ⟨0, C0, rfl, HCF, ⟨Nat.le_refl _⟩, HE⟩
      case round =>
       clear HCF HE hz3
       obtain ⟨i, C, rfl, HA, HK, HD⟩ := hrel
       cases gk with
       | zero => exact absurd HA.out (by simp [bst.l0])
       | succ k1 =>
        have H := HA.out
        clear HA; rw [bst.l0, ← HD.out.lenC] at H
        by_cases c : i < (nC : Int)
        ·rw [if_pos c] at H
         by_cases i0 : 0 ≤ i
         ·rw [if_pos i0] at H; have HN := aK H
          have HI := aK (And.intro i0 c)
          have cb := decide_eq_true c
          have c' := eq_true c
          have i0' := eq_true i0
          clear H c i0; go_wp2
          have HD := aK HD.out.drew
          have hz3 := HD.out.z3
          refine start_ (n := 8) (S := fun w' => w'.cell? ⟨g, 3, none⟩ = some (.slice (some ⟨gc, 0, none⟩) nC c3)) (ds := [7]) #[false, false, false, false, false, false, false, false] (by kernel_rfl) rfl rfl (hz3) (fun hHeld => ?_)
          generalize wr.drew = wd at HD hz3 hHeld ⊢
          refine pure_ (i := 0) (N := some 60) (v := ?_) (a' := ?_) #[true, false, false, false, false, false, false, false] rfl rfl (by kernel_rfl) (fun _ _ _ h => h) (Or.inl ⟨by rfl, ?_⟩) ?_ ?_
          rotate_left; ·intro w'; go_simp; with_reducible rfl
          rotate_left; ·simp only [Act.put, sA_, sZ_, sS_, i64_w, i32_w]; rfl
          refine pure_ (i := 2) (N := some 62) (v := ?_) (a' := ?_) #[true, false, true, false, false, false, false, false] rfl rfl (by kernel_rfl) (fun _ _ _ h => h) (Or.inl ⟨by rfl, ?_⟩) ?_ ?_
          rotate_left; ·intro w'; go_simp; with_reducible rfl
          rotate_left; ·simp only [Act.put, sA_, sZ_, sS_, i64_w, i32_w]; rfl
          refine pure_ (i := 3) (N := some 63) (v := ?_) (a' := ?_) #[true, false, true, true, false, false, false, false] rfl rfl (by kernel_rfl) (fun _ _ _ h => h) (Or.inl ⟨by rfl, ?_⟩) ?_ ?_
          rotate_left; ·intro w'; go_simp; with_reducible rfl
          rotate_left; ·simp only [Act.put, sA_, sZ_, sS_, i64_w, i32_w]; rfl
          refine pure_ (i := 4) (N := some 64) (v := ?_) (a' := ?_) #[true, false, true, true, true, false, false, false] rfl rfl (by kernel_rfl) (fun _ _ _ h => h) (Or.inl ⟨by rfl, ?_⟩) ?_ ?_
          rotate_left; ·intro w'; go_simp; with_reducible rfl
          rotate_left; ·simp only [Act.put, sA_, sZ_, sS_, i64_w, i32_w]; rfl
          refine take_ (i := 1) (N := some 61) (v := ?_) (a' := ?_) #[true, true, true, true, true, false, false, false] rfl rfl (by kernel_rfl) (fun _ _ _ h => h) (Or.inl ⟨by rfl, ?_⟩) hHeld ?_ ?_
          rotate_left
          ·intro w' s0; go_simp; with_reducible rfl
          rotate_left; ·simp only [Act.put, sA_, sZ_, sS_, i64_w, i32_w]; rfl
          refine one_ (i := 5) (N := some 65) #[true, true, true, true, true, true, false, false] rfl rfl (by kernel_rfl) (by decide) (fun K hK => ?_)
          refine Kd.R_make_step (Kd.int .i64) _ 3 (by rfl) (N := 65) rfl 31 _ _ rfl M rfl rfl Try.underlying31 (.int .i64 0) 8 info3 rfl (by decide) (by omega) 0 (ok := fun _ => True) (okp := fun _ => True) rfl (fun _ hk => hk) trivial HMM.out.1 (by have := HMM.out.2; omega) (Below.refl _ _) (Nat.le_refl _) ?_
          intro vr w3 ho_ hb_ hg_ hnew_; clear hg_
          have hz3_ := (hb_.cell (World.block_lt_of_cell? _ _ hHeld)).trans hHeld
          have hput := HD.out.put hb_ ho_ i HI.out.1 HI.out.2
          have hfroz := hput.2.1
          obtain ⟨uu, hcell⟩ := hput.2.2
          obtain ⟨gr, hgr, _⟩ := hnew_
          obtain ⟨cr, er⟩ := R_own_form ho_ hgr
          subst er
          simp only [List.length_replicate] at hput ho_ ⊢
          clear hb_ hgr
          refine hK.out _ _ (hz3_) (fun hHeld => ?_)
          clear hK K
          refine norm_ (a' := ?_) ?_ ?_
          rotate_left
          ·show Act.put _ (some 65) _ = _
           simp only [Act.put, sA_, sZ_, sS_, i64_w, i32_w]; rfl
          refine pure_ (i := 6) (N := some 66) (v := ?_) (a' := ?_) #[true, true, true, true, true, true, true, false] rfl rfl (by kernel_rfl) (fun _ _ _ h => h) (Or.inl ⟨by rfl, ?_⟩) ?_ ?_
          rotate_left; ·intro w'; go_simp; with_reducible rfl
          rotate_left; ·simp only [Act.put, sA_, sZ_, sS_, i64_w, i32_w]; rfl
          refine last_ (i := 7) (N := none) #[true, true, true, true, true, true, true, true] rfl rfl (by kernel_rfl) (by decide) (fun K hK => ?_)
          refine skip_ (w1 := w3.setCell ⟨gc, i.toNat, none⟩ (.slice (some ⟨gr, 0, none⟩) M.toNat cr)) (by rfl) rfl ?_ ?_
          ·go_simp
           try rfl
          have HDn := aK hput.1
          generalize w3.setCell ⟨gc, i.toNat, none⟩ (.slice (some ⟨gr, 0, none⟩) M.toNat cr) = w4 at HDn ⊢
          clear hput hcell hfroz HD hz3 hHeld ho_
          refine hK.out _ _ ?_
          clear hK K
          refine done_ (by kernel_rfl) ?_
          go_wp2
          go_roundg k1
          case measure => have := HK.out; omega
          case rel => exact ⟨wrap64 (i + 1), _, (by first | rfl | (simp; done)), HN, ⟨by have := HK.out; omega⟩, HDn⟩
         ·rw [if_neg i0] at H; cases H
        ·rw [if_neg c] at H
         have cb := decide_eq_false c
         obtain rfl := Option.some.inj H; clear c H; go_wp2
         go_loopg [70] k (fun kq v70 w' => ∃ (i : Int) (nq : List Int), v70 = .int .i64 i ∧ Aside0 (bst.l1 l kq i nq = some nd) ∧ Aside0 (kq ≤ k) ∧ Aside0 (EnvB w g gn gc A2 nN c0 c2 nC c3 tl (wrap64 (M - 1)) w' nq C))
         case atStart => exact ⟨0, nd0, rfl, HND, ⟨Nat.le_refl _⟩, HD⟩
         case round =>
          clear HND HD HK
          obtain ⟨i, nq, rfl, HA, HK, HD⟩ := hrel
          cases gk with
          | zero => exact absurd HA.out (by simp [bst.l1])
          | succ k1 =>
           have H := HA.out
           clear HA; rw [bst.l1] at H
           by_cases c : i < (l.length : Int)
           ·rw [if_pos c] at H
            by_cases i0 : 0 ≤ i
            ·rw [if_pos i0] at H
             by_cases q : 0 ≤ (rd_T47 l i).f1 ∧ (rd_T47 l i).f1 < (nq.length : Int) ∧ 0 ≤ (rd_T47 l i).f0
             ·rw [if_pos q] at H
              obtain ⟨ad, e1, hx0, hx1⟩ := at_T47 HR1.out i i0 c
              subst e1
              have hy0 := (HD.out.b.cell (World.block_lt_of_cell? w _ hx0)).trans hx0
              have hy1 := (HD.out.b.cell (World.block_lt_of_cell? w _ hx1)).trans hx1
              obtain ⟨p0, hp0_⟩ : ∃ x : Int, (rd_T47 l i).f0 = x := ⟨_, rfl⟩
              obtain ⟨p1, hp1_⟩ : ∃ x : Int, (rd_T47 l i).f1 = x := ⟨_, rfl⟩
              rw [hp0_] at hy0; rw [hp1_] at hy1
              rw [hp0_, hp1_] at H q
              obtain ⟨sh, hsh⟩ : ∃ j : Int, shl .i64 1 p0 = j := ⟨_, rfl⟩
              rw [hsh] at H
              have hsh_ : wrap64 (2 ^ min p0.toNat 64) = sh := by rw [← hsh]; unfold shl; rw [Int.one_mul, i64_w]; rfl
              have hsh2_ : IntKind.i64.wrap (2 ^ min p0.toNat 64) = sh := by rw [i64_w]; exact hsh_
              have HN := aK H; have HQ := aK q
              have cb := decide_eq_true c
              have c' := eq_true c
              have i0' := eq_true i0
              have q0' := eq_true q.1
              have q1' : (p1 < (nN : Int)) = True := eq_true (by rw [HD.out.lenN]; exact q.2.1)
              have q2' := eq_true q.2.2
              clear H c i0 q hx0 hx1 hp0_ hp1_ hsh
              go_wp2_with (first | ((with_reducible refine gate_dst (N := 15) rfl ?_); go_must (refine box_event ?hg (N := 15) ?hd (cs := #[.int .i64 0, .int .i64 0]) (t := 47) ?hr ?_; (case hd => rfl); (case hg => rfl); (case hr => first | (go_simp; done) | (go_simp; rfl)); intro gp hg w10 hbox hb; have GP := aK (by rw [hg]; exact bZ_ HD.out.b : w.heap.size ≤ gp); have nd_ := aK (HD.out.step hb); have BKP := aK hbox; clear HD hb hbox hg hy0 hy1; have HD := nd_; clear nd_; have hq0 : w10.cell? ⟨gp, 0, none⟩ = some (.int .i64 0) := (blk_cell BKP.out 0).trans rfl; have hq1 : w10.cell? ⟨gp, 1, none⟩ = some (.int .i64 0) := (blk_cell BKP.out 1).trans rfl; have hf0 := blk_frozen BKP.out 0; have hf1 := blk_frozen BKP.out 1)) | ((with_reducible refine gate_store (t := 47) (p := 15) rfl ?_); go_must (refine store_event (t := 47) (p := 15) (v := ?vo1_) (w1 := ((w10.setCell ⟨gp, 0, none⟩ (.int .i64 p0)).setCell ⟨gp, 1, none⟩ (.int .i64 p1))) ?hg ?ho ?hn ?hr ?_; (case ho => rfl); (case hg => rfl); (case hn => rfl); (case hr => first | (go_simp; done) | (go_simp; rfl)); intro wp hw; have nd_ := aK ((HD.out.far BKP.out GP.out 0 (.int .i64 p0)).far (blk_set BKP.out 0 _) GP.out 1 (.int .i64 p1)); have BQ := aK (blk_put (blk_put BKP.out 0 (.int .i64 p0) rfl) 1 (.int .i64 p1) rfl); rw [← hw] at nd_ BQ; clear HD BKP hq0 hq1 hf0 hf1 hw; have HD := nd_; clear nd_)))
              have HD := aK HD.out.drew
              have hz0 := HD.out.z0
              have hp0 : wp.drew.cell? ⟨gp, 0, none⟩ = some (.int .i64 p0) := (blk_cell (w := wp.drew) BQ.out 0).trans rfl
              have hp1 : wp.drew.cell? ⟨gp, 1, none⟩ = some (.int .i64 p1) := (blk_cell (w := wp.drew) BQ.out 1).trans rfl
              obtain ⟨hxn0, hfn⟩ := Kd.R_celln 0 HD.out.n p1 HQ.out.1 (of_eq_true q1')
              have hxn : wp.drew.cell? ⟨gn, p1.toNat, none⟩ = some (.int .i64 (rd nq p1)) := hxn0
              obtain ⟨xo, hxo⟩ : ∃ x : Int, rd nq p1 = x := ⟨_, rfl⟩
              rw [hxo] at hxn HN
              clear hxn0 hxo BQ
              refine start_ (n := 12) (S := fun w' => w'.cell? ⟨g, 0, none⟩ = some (.slice (some ⟨gn, 0, none⟩) nN c0) ∧ w'.cell? ⟨gp, 0, none⟩ = some (.int .i64 p0) ∧ w'.cell? ⟨gp, 1, none⟩ = some (.int .i64 p1) ∧ w'.cell? ⟨gn, p1.toNat, none⟩ = some (.int .i64 xo)) (ds := [11]) #[false, false, false, false, false, false, false, false, false, false, false, false] (by kernel_rfl) rfl rfl ⟨hz0, hp0, hp1, hxn⟩ (fun hHeld => ?_)
              generalize wp.drew = wd at HD hz0 hp0 hp1 hxn hfn hHeld ⊢
              refine pure_ (i := 0) (N := some 74) (v := ?_) (a' := ?_) #[true, false, false, false, false, false, false, false, false, false, false, false] rfl rfl (by kernel_rfl) (fun _ _ _ h => h) (Or.inl ⟨by rfl, ?_⟩) ?_ ?_
              rotate_left; ·intro w'; go_simp; with_reducible rfl
              rotate_left; ·simp only [Act.put, sA_, sZ_, sS_, i64_w, i32_w]; rfl
              refine pure_ (i := 2) (N := some 76) (v := ?_) (a' := ?_) #[true, false, true, false, false, false, false, false, false, false, false, false] rfl rfl (by kernel_rfl) (fun _ _ _ h => h) (Or.inl ⟨by rfl, ?_⟩) ?_ ?_
              rotate_left; ·intro w'; go_simp; with_reducible rfl
              rotate_left; ·simp only [Act.put, sA_, sZ_, sS_, i64_w, i32_w]; rfl
              refine pure_ (i := 6) (N := some 80) (v := ?_) (a' := ?_) #[true, false, true, false, false, false, true, false, false, false, false, false] rfl rfl (by kernel_rfl) (fun _ _ _ h => h) (Or.inl ⟨by rfl, ?_⟩) ?_ ?_
              rotate_left; ·intro w'; go_simp; with_reducible rfl
              rotate_left; ·simp only [Act.put, sA_, sZ_, sS_, i64_w, i32_w]; rfl
              refine take_ (i := 1) (N := some 75) (v := ?_) (a' := ?_) #[true, true, true, false, false, false, true, false, false, false, false, false] rfl rfl (by kernel_rfl) (fun _ _ _ h => h) (Or.inl ⟨by rfl, ?_⟩) hHeld ?_ ?_
              rotate_left
              ·rintro w' ⟨s0, s1, s2, s3⟩; go_simp; with_reducible rfl
              rotate_left; ·simp only [Act.put, sA_, sZ_, sS_, i64_w, i32_w]; rfl
              refine take_ (i := 3) (N := some 77) (v := ?_) (a' := ?_) #[true, true, true, true, false, false, true, false, false, false, false, false] rfl rfl (by kernel_rfl) (fun _ _ _ h => h) (Or.inl ⟨by rfl, ?_⟩) hHeld ?_ ?_
              rotate_left
              ·rintro w' ⟨s0, s1, s2, s3⟩; go_simp; with_reducible rfl
              rotate_left; ·simp only [Act.put, sA_, sZ_, sS_, i64_w, i32_w]; rfl
              refine pure_ (i := 4) (N := some 78) (v := ?_) (a' := ?_) #[true, true, true, true, true, false, true, false, false, false, false, false] rfl rfl (by kernel_rfl) (fun _ _ _ h => h) (Or.inl ⟨by rfl, ?_⟩) ?_ ?_
              rotate_left; ·intro w'; go_simp; with_reducible rfl
              rotate_left; ·simp only [Act.put, sA_, sZ_, sS_, i64_w, i32_w]; rfl
              refine take_ (i := 5) (N := some 79) (v := ?_) (a' := ?_) #[true, true, true, true, true, true, true, false, false, false, false, false] rfl rfl (by kernel_rfl) (fun _ _ _ h => h) (Or.inl ⟨by rfl, ?_⟩) hHeld ?_ ?_
              rotate_left
              ·rintro w' ⟨s0, s1, s2, s3⟩; go_simp; with_reducible rfl
              rotate_left; ·simp only [Act.put, sA_, sZ_, sS_, i64_w, i32_w]; rfl
              refine take_ (i := 7) (N := some 81) (v := ?_) (a' := ?_) #[true, true, true, true, true, true, true, true, false, false, false, false] rfl rfl (by kernel_rfl) (fun _ _ _ h => h) (Or.inl ⟨by rfl, ?_⟩) hHeld ?_ ?_
              rotate_left
              ·rintro w' ⟨s0, s1, s2, s3⟩; go_simp; with_reducible rfl
              rotate_left; ·simp only [Act.put, sA_, sZ_, sS_, i64_w, i32_w]; rfl
              refine pure_ (i := 8) (N := some 82) (v := ?_) (a' := ?_) #[true, true, true, true, true, true, true, true, true, false, false, false] rfl rfl (by kernel_rfl) (fun _ _ _ h => h) (Or.inl ⟨by rfl, ?_⟩) ?_ ?_
              rotate_left; ·intro w'; go_simp; with_reducible rfl
              rotate_left; ·simp only [Act.put, sA_, sZ_, sS_, i64_w, i32_w]; rfl
              refine pure_ (i := 9) (N := some 83) (v := ?_) (a' := ?_) #[true, true, true, true, true, true, true, true, true, true, false, false] rfl rfl (by kernel_rfl) (fun _ _ _ h => h) (Or.inl ⟨by rfl, ?_⟩) ?_ ?_
              rotate_left; ·intro w'; go_simp; with_reducible rfl
              rotate_left; ·simp only [Act.put, sA_, sZ_, sS_, i64_w, i32_w]; rfl
              refine pure_ (i := 10) (N := some 84) (v := ?_) (a' := ?_) #[true, true, true, true, true, true, true, true, true, true, true, false] rfl rfl (by kernel_rfl) (fun _ _ _ h => h) (Or.inl ⟨by rfl, ?_⟩) ?_ ?_
              rotate_left; ·intro w'; go_simp; with_reducible rfl
              rotate_left; ·simp only [Act.put, sA_, sZ_, sS_, i64_w, i32_w]; rfl
              refine last_ (i := 11) (N := none) #[true, true, true, true, true, true, true, true, true, true, true, true] rfl rfl (by kernel_rfl) (by decide) (fun K hK => ?_)
              have HDn := aK (HD.out.setN p1 (Go.bits .or .i64 xo sh))
              refine skip_ (w1 := wd.setCell ⟨gn, p1.toNat, none⟩ (.int .i64 (Go.bits .or .i64 xo sh))) (by rfl) rfl ?_ ?_
              ·go_simp
               try rfl
              generalize wd.setCell ⟨gn, p1.toNat, none⟩ (.int .i64 (Go.bits .or .i64 xo sh)) = w4 at HDn ⊢
              clear HD hz0 hp0 hp1 hxn hfn hHeld
              refine hK.out _ _ ?_
              clear hK K
              refine done_ (by kernel_rfl) ?_
              go_wp2
              go_roundg k1
              case measure => have := HK.out; omega
              case rel => exact ⟨wrap64 (i + 1), _, (by first | rfl | (simp; done)), HN, ⟨by have := HK.out; omega⟩, HDn⟩
             ·rw [if_neg q] at H; cases H
            ·rw [if_neg i0] at H; cases H
           ·rw [if_neg c] at H
            have cb := decide_eq_false c
            obtain rfl := Option.some.inj H; clear c H
            have HS := aK (HD.out.toS HR2.out)
            have GN := aK (Kd.R_lt HD.out.n gn rfl)
            obtain ⟨N0, hN0⟩ : ∃ m : Nat, m = wr.heap.size := ⟨_, rfl⟩
            have HNL : Aside0 (N0 ≤ wr.heap.size) := ⟨by rw [hN0]; exact Nat.le_refl _⟩
            rw [← hN0] at HS GN
            clear hN0 HD HK
            obtain ⟨fl, hfl⟩ : ∃ x : Int, wrap64 (M - 1) = x := ⟨_, rfl⟩
            rw [hfl] at HS HRO
            clear hfl; go_wp2
            go_loopg [16, 17, 18, 19] k (fun kq v16 v17 v18 v19 w' => ∃ (s la ch : Int) (o : List Int) (D : List (List Int)), v17 = .int .i64 ch ∧ v18 = .int .i64 s ∧ v19 = .int .i64 la ∧ Aside0 (bst.l2 nq tl fl n kq s la ch o D = some (ro, rc)) ∧ Aside0 (kq ≤ k) ∧ Aside0 (Kd.R (Kd.int .i64) 3 w' w.heap.size (fun k => N0 ≤ k) v16 o) ∧ Aside0 (EnvS w (fun k => k ≠ gn ∧ k < N0) g gn gc nq tl fl c0 c2 c3 A2 nC w' D) ∧ Aside0 (N0 ≤ w'.heap.size))
            case atStart => exact ⟨0, -1, 0, [], C, rfl, rfl, rfl, HRO, ⟨Nat.le_refl _⟩, ⟨Kd.R_nil _ _ _ _ _⟩, HS, HNL⟩
            case round =>
             clear HRO HS HNL
             obtain ⟨s, la, ch, o, D, rfl, rfl, rfl, HA, HK, HO, HS, HNL⟩ := hrel
             cases gk with
             | zero => exact absurd HA.out (by simp [bst.l2])
             | succ k1 =>
              have H := HA.out
              clear HA; rw [bst.l2] at H
              have hz2 := HS.out.z2
              obtain ⟨A16, c16, e16⟩ := Kd.R_slice HO.out
              subst e16
              by_cases c : s = fl
              ·rw [if_pos c] at H
               simp only [Option.some.injEq, Prod.mk.injEq] at H
               obtain ⟨rfl, rfl⟩ := H
               have cb : (s != fl) = false := bne_eq_false_iff_eq.mpr c
               clear c; go_wp2
               go_ret3
               exact ⟨_, rfl, Kd.R_mono HO.out (fun _ _ => trivial), HS.out.b⟩
              ·rw [if_neg c] at H
               have cb : (s != fl) = true := bne_iff_ne.mpr c
               obtain ⟨⟨bf, lf, Df⟩, h3, H⟩ := oB_ H
               dsimp only at H
               by_cases q : 0 ≤ bf ∧ o.length < 1000000
               ·rw [if_pos q] at H; have HN := aK H; have HQ := aK q; have H3 := aK h3
                obtain ⟨sb, hsb⟩ : ∃ j : Int, shl .i64 1 bf = j := ⟨_, rfl⟩
                rw [hsb] at HN
                have hsb_ : wrap64 (2 ^ min bf.toNat 64) = sb := by rw [← hsb]; unfold shl; rw [Int.one_mul, i64_w]; rfl
                have hsb2_ : IntKind.i64.wrap (2 ^ min bf.toNat 64) = sb := by rw [i64_w]; exact hsb_
                have q0' := eq_true q.1
                clear H c q h3 hsb; go_wp2; clear hz2
                go_loopg [20, 21, 91] k1 (fun kq v20 v21 v91 w' => ∃ (b le i : Int) (E : List (List Int)), v20 = .int .i64 b ∧ v21 = .int .i64 le ∧ v91 = .int .i64 i ∧ Aside0 (bst.l3 nq tl fl n s la kq i b le E = some (bf, lf, Df)) ∧ Aside0 (kq ≤ k1) ∧ Aside0 (Kd.R (Kd.int .i64) 3 w' w.heap.size (fun k => N0 ≤ k) (.slice A16 o.length c16) o) ∧ Aside0 (EnvS w (fun k => k ≠ gn ∧ k < N0) g gn gc nq tl fl c0 c2 c3 A2 nC w' E) ∧ Aside0 (N0 ≤ w'.heap.size))
                case atStart => exact ⟨-1, 0, 0, D, rfl, rfl, rfl, H3, ⟨Nat.le_refl _⟩, HO, HS, HNL⟩
                case round =>
                 clear H3 HO HS HNL
                 obtain ⟨b, le, i, E, rfl, rfl, rfl, HA, HK2, HO, HS, HNL⟩ := hrel
                 cases gk with
                 | zero => exact absurd HA.out (by simp [bst.l3])
                 | succ k2 =>
                  have H := HA.out
                  clear HA; rw [bst.l3] at H
                  by_cases c : i < n
                  ·rw [if_pos c] at H
                   have cb2 := decide_eq_true c
                   obtain ⟨t, ht, H⟩ := oB_ H
                   have HT := aK ht; clear c ht
                   cases t with
                   | true =>
                    rw [if_pos rfl] at H
                    obtain ⟨⟨u, E2⟩, hu, H⟩ := oB_ H
                    have HU := aK hu
                    dsimp only at H
                    clear hu
                    by_cases b0 : b < 0
                    ·rw [if_pos b0] at H; have HN2 := aK H
                     have b0b := decide_eq_true b0
                     clear b0 H
                     go_wp2_with (first | (go_at_call 48; go_must (refine (sopen.calls HS.out s i true HT.out).mono ?_; rintro e w' ⟨rfl, rfl⟩)) | (go_at_call 49; go_must (refine ((search.calls w (fun k => k ≠ gn ∧ k < N0) g gn gc nq tl fl c0 c2 c3 A2 nC k2).2 s la i E u E2 _ HS.out HU.out).mono ?_; rintro e w3 ⟨rfl, hE, hKp⟩; have ns := aK hE; have no := aK (Kd.R_kept HO.out hKp (fun k hk h2 => by omega)); have nl := aK (Nat.le_trans HNL.out hKp.1); clear HS HO HNL hE hKp; have HS := ns; have HO := no; have HNL := nl; clear ns no nl)))
                     go_roundg k2
                     case measure => have := HK.out; have := HK2.out; omega
                     case rel => exact ⟨i, u, wrap64 (i + 1), E2, rfl, rfl, (by first | rfl | (simp; done)), HN2, ⟨by have := HK2.out; omega⟩, HO, HS, HNL⟩
                    ·rw [if_neg b0] at H
                     have b0b := decide_eq_false b0
                     by_cases ul : u < le
                     ·rw [if_pos ul] at H; have HN2 := aK H
                      have ulb := decide_eq_true ul
                      clear b0 ul H
                      go_wp2_with (first | (go_at_call 48; go_must (refine (sopen.calls HS.out s i true HT.out).mono ?_; rintro e w' ⟨rfl, rfl⟩)) | (go_at_call 49; go_must (refine ((search.calls w (fun k => k ≠ gn ∧ k < N0) g gn gc nq tl fl c0 c2 c3 A2 nC k2).2 s la i E u E2 _ HS.out HU.out).mono ?_; rintro e w3 ⟨rfl, hE, hKp⟩; have ns := aK hE; have no := aK (Kd.R_kept HO.out hKp (fun k hk h2 => by omega)); have nl := aK (Nat.le_trans HNL.out hKp.1); clear HS HO HNL hE hKp; have HS := ns; have HO := no; have HNL := nl; clear ns no nl)))
                      go_roundg k2
                      case measure => have := HK.out; have := HK2.out; omega
                      case rel => exact ⟨i, u, wrap64 (i + 1), E2, rfl, rfl, (by first | rfl | (simp; done)), HN2, ⟨by have := HK2.out; omega⟩, HO, HS, HNL⟩
                     ·rw [if_neg ul] at H; have HN2 := aK H
                      have ulb := decide_eq_false ul
                      clear b0 ul H
                      go_wp2_with (first | (go_at_call 48; go_must (refine (sopen.calls HS.out s i true HT.out).mono ?_; rintro e w' ⟨rfl, rfl⟩)) | (go_at_call 49; go_must (refine ((search.calls w (fun k => k ≠ gn ∧ k < N0) g gn gc nq tl fl c0 c2 c3 A2 nC k2).2 s la i E u E2 _ HS.out HU.out).mono ?_; rintro e w3 ⟨rfl, hE, hKp⟩; have ns := aK hE; have no := aK (Kd.R_kept HO.out hKp (fun k hk h2 => by omega)); have nl := aK (Nat.le_trans HNL.out hKp.1); clear HS HO HNL hE hKp; have HS := ns; have HO := no; have HNL := nl; clear ns no nl)))
                      go_roundg k2
                      case measure => have := HK.out; have := HK2.out; omega
                      case rel => exact ⟨b, le, wrap64 (i + 1), E2, rfl, rfl, (by first | rfl | (simp; done)), HN2, ⟨by have := HK2.out; omega⟩, HO, HS, HNL⟩
                   | false =>
                    rw [if_neg (by decide)] at H; have HN2 := aK H; clear H
                    go_wp2_with (go_at_call 48; go_must (refine (sopen.calls HS.out s i false HT.out).mono ?_; rintro e w' ⟨rfl, rfl⟩))
                    go_roundg k2
                    case measure => have := HK.out; have := HK2.out; omega
                    case rel => exact ⟨b, le, wrap64 (i + 1), E, rfl, rfl, (by first | rfl | (simp; done)), HN2, ⟨by have := HK2.out; omega⟩, HO, HS, HNL⟩
                  ·rw [if_neg c] at H
                   have cb2 := decide_eq_false c
                   simp only [Option.some.injEq, Prod.mk.injEq] at H
                   obtain ⟨rfl, rfl, rfl⟩ := H
                   clear c
                   have fin : ∀ (v1 : Value) (w1 : World), Kd.R (Kd.int .i64) 3 w1 w.heap.size (fun k => N0 ≤ k) v1 (o ++ [b]) → Below w.heap.size w w1 → wr.grownBy w1 (Value.slice A16 o.length c16).ownBlock → Aside0 (Kd.R (Kd.int .i64) 3 w1 w.heap.size (fun k => N0 ≤ k) v1 (o ++ [b])) ∧ Aside0 (EnvS w (fun k => k ≠ gn ∧ k < N0) g gn gc nq tl fl c0 c2 c3 A2 nC w1 E) ∧ Aside0 (N0 ≤ w1.heap.size) := by
                    intro v1 w1 ho hb hg
                    have hN : ∀ k, (Value.slice A16 o.length c16).ownBlock = some k → N0 ≤ k := fun k hk => HO.out.1 k hk
                    exact ⟨⟨ho⟩, ⟨HS.out.grown hb hg (fun k hk h2 => by have := hN k hk; omega) (fun e => by have := hN gn e.symm; have := GN.out; omega) (Kd.R_ne HO.out HS.out.bk (by decide))⟩, ⟨Nat.le_trans HNL.out hg.size⟩⟩
                   have FIN := aK fin; clear fin
                   by_cases l0 : la < 0
                   ·have l0b := decide_eq_true l0
                    rw [if_pos l0] at HN; clear l0
                    go_wp2_with ((with_reducible refine gate_builtin (b := .append) (xs := #[.tmp 115, .tmp 117]) rfl ?_); go_must (at_builtin; refine Kd.R_append (Kd.int .i64) (w0 := w) w.heap.size rfl (.tmp 115) (.tmp 117) 31 3 (.int .i64 0) 8 rfl Try.underlying31 info3 rfl (by decide) (by omega) _ o b [.int .i64 b] (fun k => N0 ≤ k) (fun _ => False) rfl rfl ?aP (fun _ hk => hk.elim) ?aF HO.out HS.out.b HS.out.b.size ?aL ?_; (case aP => exact (show Kd.M (Kd.int .i64) _ _ _ b [.int .i64 b] from rfl)); (case aF => exact (fun k_ hk => Nat.le_trans HNL.out hk)); (case aL => (have := HQ.out.2; omega)); intro v1 w1 ho hb hg hat; obtain ⟨no, ns, nl⟩ := FIN.out v1 w1 ho hb hg; clear FIN HO HS HNL ho hb hg hat; have HO := no; have HS := ns; have HNL := nl; clear no ns nl))
                    go_roundg k1
                    case measure => have := HK.out; omega
                    case rel => exact ⟨_, b, le, o ++ [b], E, rfl, rfl, rfl, HN, ⟨by have := HK.out; omega⟩, HO, HS, HNL⟩
                   ·have l0b := decide_eq_false l0
                    rw [if_neg l0] at HN; clear l0
                    go_wp2_with ((with_reducible refine gate_builtin (b := .append) (xs := #[.tmp 115, .tmp 117]) rfl ?_); go_must (at_builtin; refine Kd.R_append (Kd.int .i64) (w0 := w) w.heap.size rfl (.tmp 115) (.tmp 117) 31 3 (.int .i64 0) 8 rfl Try.underlying31 info3 rfl (by decide) (by omega) _ o b [.int .i64 b] (fun k => N0 ≤ k) (fun _ => False) rfl rfl ?aP (fun _ hk => hk.elim) ?aF HO.out HS.out.b HS.out.b.size ?aL ?_; (case aP => exact (show Kd.M (Kd.int .i64) _ _ _ b [.int .i64 b] from rfl)); (case aF => exact (fun k_ hk => Nat.le_trans HNL.out hk)); (case aL => (have := HQ.out.2; omega)); intro v1 w1 ho hb hg hat; obtain ⟨no, ns, nl⟩ := FIN.out v1 w1 ho hb hg; clear FIN HO HS HNL ho hb hg hat; have HO := no; have HS := ns; have HNL := nl; clear no ns nl))
                    go_roundg k1
                    case measure => have := HK.out; omega
                    case rel => exact ⟨_, b, ch, o ++ [b], E, rfl, rfl, rfl, HN, ⟨by have := HK.out; omega⟩, HO, HS, HNL⟩
               ·rw [if_neg q] at H; cases H
     ·rw [if_neg hc] at H; cases H
    ·rw [if_neg z3] at H
     have z3b : (e1 != 0) = true := bne_iff_ne.mpr z3
     simp only [Option.some.injEq, Prod.mk.injEq] at H
     obtain ⟨rfl, rfl, rfl⟩ := H
     clear z1 z2 z3 ho
     go_enter Try.func28, Try.ntmps28
     go_wp2_with (first | (go_at_call 20; go_must ((with_reducible refine (precedence_Valid.calls k n _ _ l 0 _ ?s1 ?s2 HEV.out).mono ?_); (case s1 => exact HR1.out); (case s2 => exact HC1.out); rintro e w7 ⟨rfl, hb⟩; have n_ := aK hb; clear HB hb; have HB := n_; clear n_)) | (go_at_call 25; go_must ((with_reducible refine (precedence_Order.calls k n _ _ l _ _ _ ?s1 ?s2 HO1.out).mono ?_); (case s1 => exact Kd.C_below HR1.out HB.out); (case s2 => exact HC1.out); rintro e w8 ⟨v0, rfl, hv, hb⟩; have n_ := aK (bT_ HB.out hb); clear HB hb hv; have HB := n_; clear n_)))
     go_ret3
     exact ⟨_, rfl, Kd.R_nil _ _ _ _ _, HB.out⟩
  ·rw [if_neg z1] at H
   have z1b : ((tl.length : Int) != n) = true := bne_iff_ne.mpr z1
   simp only [Option.some.injEq, Prod.mk.injEq] at H
   obtain ⟨rfl, rfl, rfl⟩ := H
   clear z1
   go_enter Try.func28, Try.ntmps28
   go_wp2_with (go_at_call 20; go_must ((with_reducible refine (precedence_Valid.calls k n _ _ l 0 _ ?s1 ?s2 HEV.out).mono ?_); (case s1 => exact HR1.out); (case s2 => exact HC1.out); rintro e w8 ⟨rfl, hb⟩; have n_ := aK hb; clear HB hb; have HB := n_; clear n_))
   go_ret3
   exact ⟨_, rfl, Kd.R_nil _ _ _ _ _, HB.out⟩
 ·rw [if_neg z] at H
  have zb : (e != 0) = true := bne_iff_ne.mpr z
  simp only [Option.some.injEq, Prod.mk.injEq] at H
  obtain ⟨rfl, rfl, rfl⟩ := H
  clear z
  go_enter Try.func28, Try.ntmps28
  go_wp2_with (go_at_call 20; go_must ((with_reducible refine (precedence_Valid.calls k n _ _ l e _ ?s1 ?s2 HEV.out).mono ?_); (case s1 => exact HR1.out); (case s2 => exact HC1.out); rintro e w8 ⟨rfl, hb⟩; have n_ := aK hb; clear HB hb; have HB := n_; clear n_))
  go_ret3
  exact ⟨_, rfl, Kd.R_nil _ _ _ _ _, HB.out⟩
theorem precedence_Best.calls (k : Nat) (a0 : Int) (A1 : Option Addr) (c1 : Nat) (l1 : List S47) (A2 : Option Addr) (c2 : Nat) (l2 : List Int) (r1 : List Int) (r2 : Int) (r3 : Int) (w : World) (hr1 : Kd.C k47 w A1 l1.length l1) (hc1 : l1.length ≤ c1) (hr2 : Kd.C (Kd.int .i64) w A2 l2.length l2) (hc2 : l2.length ≤ c2) (h : precedence_Best.f k a0 l1 l2 = some (r1, r2, r3)) :
  Calls Try.prog 28 #[.int .i64 a0, .slice A1 l1.length c1, .slice A2 l2.length c2] w fun e w' => ∃ v0_ : Value, e = .returned (.tuple #[v0_, .int .i64 r2, .int .i64 r3]) ∧ Kd.R (Kd.int .i64) 3 w' w.heap.size (fun _ => True) v0_ r1 ∧ Below w.heap.size w w' :=
 (precedence_Best.calls_ k a0 A1 c1 l1 A2 c2 l2 r1 r2 r3 w hr1 hc1 hr2 hc2 h).mono fun _ _ hp => hp
end Go.Proofs.Ytbbkclcfmcjlgaa.P



namespace Go.Proofs.Ytbbkclcfmcjlgaa.P
open Go.RowKit Go.Proofs.YtbbkclcfmcjlgaaW.PrintWords Go.Proofs.YtbbkclcfmcjlgaaW.PrintLast Go.Proofs.YtbbkclcfmcjlgaaW.PrintMore
set_option linter.unusedVariables false
set_option linter.unusedSimpArgs false
attribute [local go_sem] Oper.semAt_some

def KC (W W' : World) : Prop := W.heap.size ≤ W'.heap.size ∧ ∀ (k : Nat) (cells : Array Value) (t : TypeId) (p : Nat × Nat), W.heap[k]? = some (.cells cells t p) → t ≠ 52 → t ≠ 4 → W'.heap[k]? = some (.cells cells t p)
theorem KC.refl (W : World) : KC W W := ⟨Nat.le_refl _, fun _ _ _ _ h _ _ => h⟩
theorem KC.trans {A B C : World} (h : KC A B) (k : KC B C) : KC A C := ⟨Nat.le_trans h.1 k.1, fun i cells t p hi h1 h2 => k.2 i cells t p (h.2 i cells t p hi h1 h2) h1 h2⟩
theorem KC.below {A B : World} (h : Below A.heap.size A B) : KC A B := ⟨h.size, fun i cells t p hi _ _ => (h.block i (blk_lt hi)).trans hi⟩
theorem KC.set {A : World} {g t : Nat} {cells : Array Value} (h : A.heap[g]? = some (.cells cells t (0, 0))) (ht : t = 52 ∨ t = 4) (j : Nat) (v : Value) : KC A (A.setCell ⟨g, j, none⟩ v) :=
 ⟨by simp, fun i cells' t' p hi h1 h2 => by
  by_cases e : i = g
  ·subst e; rw [h] at hi
   injection hi with hi
   injection hi with _ hi _
   subst hi
   rcases ht with rfl | rfl
   ·exact absurd rfl h1
   ·exact absurd rfl h2
  ·exact (Below.heap_setCell A ⟨g, j, none⟩ v i e).trans hi⟩
theorem KC.putObj {A : World} {l : Nat} {o : Obj} (h : A.heap[l]? = some o) (ho : o.isCells = false) (o' : Obj) : KC A (A.putObj l o') :=
 ⟨(grownBy_putObj' A l o').size, fun i cells t p hi _ _ => by
  have : i ≠ l := fun e => by subst e; rw [h] at hi; injection hi with hi; subst hi; cases ho
  exact ((grownBy_putObj' A l o').block i (blk_lt hi) (fun e => this (by injection e))).trans hi⟩
theorem KC.row {α : Type} {d : Kd α} {e base : Nat} {ok : Nat → Prop} {W W' : World} {v : Value} {xs : List α} (h : d.R e W base ok v xs) (hk : KC W W') (ht : ∀ q, q ∈ e :: d.E → q ≠ 52 ∧ q ≠ 4) : d.R e W' base ok v xs :=
 Kd.R_mono (Kd.R_move (Kd.R_bound h) (fun k hb => by
  obtain ⟨_, _, _, q, hq, cells, hc⟩ := hb
  exact (hk.2 k cells q _ hc (ht q hq).1 (ht q hq).2).trans hc.symm)) (fun k hb => hb.1)
theorem KC.rows {α : Type} {d : Kd α} {e base : Nat} {ok : Nat → Prop} {W W' : World} {v : Value} {xs : List α} (h : Kd.S d e W base ok v xs) (hk : KC W W') (ht : ∀ q, q ∈ e :: d.E → q ≠ 52 ∧ q ≠ 4) : Kd.S d e W' base ok v xs :=
 Kd.S_mono (Kd.S_move (Kd.S_bound h) (fun k hb => by
  obtain ⟨_, _, _, q, hq, cells, hc⟩ := hb
  exact (hk.2 k cells q _ hc (ht q hq).1 (ht q hq).2).trans hc.symm)) (fun k hb => hb.1)

def back.at (zs : List Int) (j : Nat) : Int × Int := ((zs.length : Int) - 1 - j, rd zs ((zs.length : Int) - 1 - j))
theorem back.snoc {N k : Nat} {pre : List (Fin N)} (h : pre.map (fun x => x.val) = List.range k) (hk : k < N) : (pre ++ [(⟨k, hk⟩ : Fin N)]).map (fun x => x.val) = List.range (k + 1) := by simp [h, List.range_succ]
theorem back.len {N k : Nat} {pre : List (Fin N)} (h : pre.map (fun x => x.val) = List.range k) : pre.length = k := by have := congrArg List.length h; simpa using this

set_option maxRecDepth 100000 in
set_option maxHeartbeats 2000000 in
theorem back1_in (F : Fence) (n : Nat) (h55 : F.fn 55) (hro : F.round = none) (hn : 1 ≤ n) (l Bs base cap : Nat) (A : Option Addr) (ok : Nat → Prop) (zs : List Int) (hreach : zs.length ≤ 140737488351232) (J Jx : List (Fin zs.length) → World → Prop)
  (hY : ∀ pre x W, J pre W → pre.length < zs.length → YieldAt F (n - 1) Try.prog l #[.int .i64 (back.at zs x.val).1, .int .i64 (back.at zs x.val).2] W fun e W' =>
   (e = .returned (.bool true) ∧ J (pre ++ [x]) W' ∧ KC W W') ∨ (e = .returned (.bool false) ∧ Jx (pre ++ [x]) W'))
  (W : World) (hBs : W.heap[Bs]? = some (.cells #[.slice A zs.length cap] 31 (0, 0))) (hr : Kd.R (Kd.int .i64) 3 W base ok (.slice A zs.length cap) zs) (h0 : J [] W) :
  CallsIn F n Try.prog 55 #[.func (.yield l) #[] #[], .pointer (some ⟨Bs, 0, none⟩)] W fun e W' => (∃ v, e = .returned v) ∧
   ((∃ ys : List (Fin zs.length), ys.map (fun x => x.val) = List.range zs.length ∧ J ys W') ∨ (∃ pre : List (Fin zs.length), True ∧ Jx pre W')) := by
 have hu31 := Try.underlying31
 have hbox := (blk_cell hBs 0).trans (rfl : (#[Value.slice A zs.length cap] : Array Value)[0]? = some (.slice A zs.length cap))
 refine callsIn_of_wp Try.func55 rfl h55 ?_ hro
 simp only [Try.ntmps55, List.size_toArray, List.length_cons, List.length_nil, Nat.reduceAdd, Nat.reduceSub, Array.replicate_succ, Array.replicate_zero, List.push_toArray, List.append_toArray, List.nil_append, List.cons_append]
 gi_wp2
 gi_loopw [3] (fun i wr => ∃ (k : Nat) (iv : Int) (pre : List (Fin zs.length)), k ≤ zs.length ∧ Aside0 (iv = (zs.length : Int) - 1 - k) ∧ Aside0 (pre.map (fun x => x.val) = List.range k) ∧ i = .int .i64 iv ∧ J pre wr ∧ KC W wr)
  (fun i _ => (intOf i + 1).toNat)
 case atStart => exact ⟨0, (zs.length : Int) - 1, [], Nat.zero_le _, ⟨by omega⟩, ⟨rfl⟩, rfl, h0, KC.refl _⟩
 case round =>
  clear hbox
  obtain ⟨k, iv, pre, hk, HI, HPR, rfl, hJs, hnx⟩ := hrel
  have HB := hnx.2 Bs _ _ _ hBs (by decide) (by decide)
  have hbox := (blk_cell HB 0).trans (rfl : (#[Value.slice A zs.length cap] : Array Value)[0]? = some (.slice A zs.length cap))
  by_cases hlt : k < zs.length
  ·have hR := KC.row hr hnx (fun q hq => by simp [Kd.int, Kd.scalar] at hq; subst hq; decide)
   obtain ⟨go, co, eo, _, _, _⟩ := Kd.R_form hR (by omega)
   injection eo with e1 e2 e3
   subst e1; subst e3
   have q0 : 0 ≤ iv := by have := HI.out; omega
   have q1 : iv < zs.length := by have := HI.out; omega
   obtain ⟨hcx0, _⟩ := Kd.R_celln 0 hR iv q0 (by omega)
   have hcx : wr.cell? ⟨go, iv.toNat, none⟩ = some (.int .i64 (rd zs iv)) := hcx0
   have HY := hY _ ⟨k, hlt⟩ wr hJs (by rw [back.len HPR.out]; exact hlt)
   have hat : back.at zs k = (iv, rd zs iv) := by unfold back.at; rw [HI.out]
   simp only [hat] at HY
   obtain ⟨fn, tmps, assign, body, hy, hRn⟩ := HY
   have HA := aK hat
   have q0b := decide_eq_true q0
   have q0c := eq_true q0
   have q1c := eq_true q1
   clear hcx0 e2 hat
   gi_wp2
   refine hRn.mono ?_
   rintro e W3 (⟨rfl, hJ3, hk3⟩ | ⟨rfl, hJx3⟩)
   ·have HB3 := hk3.2 Bs _ _ _ HB (by decide) (by decide)
    clear hbox hcx
    gi_wp2
    go_roundw
    case rel => exact ⟨k + 1, iv - 1, _, by omega, ⟨by have := HI.out; omega⟩, ⟨back.snoc HPR.out hlt⟩, rfl, hJ3, hnx.trans hk3⟩
    case measure => simp [intOf]; omega
   ·clear hbox hcx
    gi_wp2
    refine bodyPost_ret (results_none rfl _ _ _) rfl ?_
    exact ⟨⟨_, rfl⟩, .inr ⟨_, trivial, hJx3⟩⟩
  ·obtain rfl : k = zs.length := by omega
   obtain rfl : iv = -1 := by have := HI.out; omega
   gi_wp2
   go_end0
   exact ⟨⟨_, rfl⟩, .inl ⟨_, HPR.out, hJs⟩⟩

set_option maxHeartbeats 1000000 in
theorem back_in (F : Fence) (n : Nat) (h51 : F.fn 51) (hro : F.round = none) (a : Option Addr) (len cap : Nat) (w : World) :
  CallsIn F n Try.prog 51 #[.slice a len cap] w fun e w' => e = .returned (.func (.func 55) #[] #[.pointer (some ⟨w.heap.size, 0, none⟩)]) ∧ w' = w.alloc (.cells #[.slice a len cap] 31) := by
 refine callsIn_of_wp Try.func51 rfl h51 ?_ hro
 simp only [Try.ntmps51, List.size_toArray, List.length_cons, List.length_nil, Nat.reduceAdd, Nat.reduceSub, Array.replicate_succ, Array.replicate_zero, List.push_toArray, List.append_toArray, List.nil_append, List.cons_append]
 gi_wp2
 go_ret
 exact ⟨rfl, rfl⟩

theorem back_stops (F : Fence) (n : Nat) (h55 : F.fn 55) (hro : F.round = none) (hn : 1 ≤ n) (Bs base cap : Nat) (A : Option Addr) (ok : Nat → Prop) (zs : List Int) (hreach : zs.length ≤ 140737488351232) (w : World)
  (hBs : w.heap[Bs]? = some (.cells #[.slice A zs.length cap] 31 (0, 0))) (hr : Kd.R (Kd.int .i64) 3 w base ok (.slice A zs.length cap) zs) :
  SeqStopsK F n Try.prog 55 #[.pointer (some ⟨Bs, 0, none⟩)] (fun x : Fin zs.length => #[Value.int .i64 (back.at zs x.val).1, Value.int .i64 (back.at zs x.val).2]) KC (fun ys => ys.map (fun x => x.val) = List.range zs.length)
   (fun pre => True) zs.length w := fun l J Jx W hW _ _ hY h0 =>
 back1_in F n h55 hro hn l Bs base cap A ok zs hreach J Jx hY W ((hW.block Bs (blk_lt hBs)).trans hBs) (Kd.R_below hr hW) h0
end Go.Proofs.Ytbbkclcfmcjlgaa.P


namespace Go.Proofs.Ytbbkclcfmcjlgaa.P
open Go.RowKit Go.Proofs.YtbbkclcfmcjlgaaW.PrintWords Go.Proofs.YtbbkclcfmcjlgaaW.PrintLast Go.Proofs.YtbbkclcfmcjlgaaW.PrintMore
set_option linter.unusedVariables false
set_option linter.unusedSimpArgs false

def plainOp : Op → Bool
 | .move _ | .assign _ | .pick _ _ _ | .alloc _ | .box _ _ | .load _ _ | .store _ _ _ | .binOp _ _ _ _ _ | .unOp _ _ _ | .makeSlice _ _ _ | .fieldAddr _ _ _ | .indexAddr _ _ _ => true
 | _ => false
theorem plain_res {P : Program} {ρ : Operand → Value} {o : Oper} (h : plainOp o.op = true) (w : World) :
  (∃ v w', (execOp ρ o).run P w = .ok (.value v) w') ∨ (∃ w', (execOp ρ o).run P w = .ok .skip w') ∨ (∃ e w', (execOp ρ o).run P w = .halt e w') := by
 have hv : ∀ s : Sem Value, (∃ v w', (do pure (Next.value (← s)) : Sem Next).run P w = .ok (.value v) w') ∨ (∃ w', (do pure (Next.value (← s)) : Sem Next).run P w = .ok .skip w') ∨ (∃ e w', (do pure (Next.value (← s)) : Sem Next).run P w = .halt e w') := by
  intro s; simp only [Sem.run_bind]
  cases hs : s.run P w with
  | ok a w' => exact .inl ⟨a, w', rfl⟩
  | halt e w' => exact .inr (.inr ⟨e, w', rfl⟩)
 have hu : ∀ s : Sem Unit, (∃ v w', (do s; pure Next.skip : Sem Next).run P w = .ok (.value v) w') ∨ (∃ w', (do s; pure Next.skip : Sem Next).run P w = .ok .skip w') ∨ (∃ e w', (do s; pure Next.skip : Sem Next).run P w = .halt e w') := by
  intro s; simp only [Sem.run_bind]
  cases hs : s.run P w with
  | ok a w' => exact .inr (.inl ⟨w', rfl⟩)
  | halt e w' => exact .inr (.inr ⟨e, w', rfl⟩)
 obtain ⟨dst, op, type, pos, after, guard⟩ := o
 cases op <;> first | (cases h; done) | exact .inl ⟨_, _, rfl⟩ | exact hv _ | exact hu _ | skip
 rename_i c a b
 simp only [execOp, Sem.run_bind]
 cases hs : (asBool (ρ c)).run P w with
 | ok x w' => exact .inl ⟨_, w', rfl⟩
 | halt e w' => exact .inr (.inr ⟨e, w', rfl⟩)
theorem plain_notdefer {op : Op} (h : plainOp op = true) : ∀ c, op ≠ .defer c := by
 rintro c rfl
 cases h
theorem wpIn_of_plain {F : Fence} {n : Nat} {P : Program} {o : Oper} {a : Act} {w : World} {next next' : Act → World → Prop} {Q : Exit → Act → World → Prop} (hF : ∀ f, F.fn f) (hp : plainOp o.op = true) (hn : ∀ a w, next a w → next' a w) (h : o.wp P a w next Q) : o.wpIn F n P a w next' Q := by
 refine ⟨fun f _ => hF f, ?_⟩
 rw [Oper.semAt_plain F _ _ (plain_notdefer hp)]
 unfold Oper.wp at h
 rcases plain_res (P := P) (ρ := a.eval) hp w with ⟨v, w', e⟩ | ⟨w', e⟩ | ⟨x, w', e⟩
 ·rw [e] at h ⊢
  exact hn _ _ h
 ·rw [e] at h ⊢
  exact hn _ _ h
 ·rw [e] at h ⊢
  cases x <;> first | exact h | exact h.elim
theorem wpOpsIn_of_plain {F : Fence} {n : Nat} {P : Program} {ops : Array Oper} {Q : Exit → Act → World → Prop} (hF : ∀ f, F.fn f) (hp : ops.all (fun o => plainOp o.op) = true) (hq : ¬ LetsOut Q) : ∀ (l : List Nat) (a : Act) (w : World), wpOps P ops Q l a w → wpOpsIn F n P ops Q l a w := by
 intro l
 induction l with
 | nil => intro a w h; exact h
 | cons i rest ih =>
  intro a w h
  unfold wpOps at h
  unfold wpOpsIn
  cases ho : ops[i]? with
  | none => rw [ho] at h; exact ih _ _ h
  | some o =>
   rw [ho] at h
   simp only at h ⊢
   have hpo : plainOp o.op = true := by
    rw [Array.all_eq_true_iff_forall_mem] at hp
    exact hp o (Array.mem_of_getElem? ho)
   by_cases hw : Region.wanted o (yielded ops a.tmps) = true
   ·rw [if_pos hw] at h ⊢
    rcases h with h | ⟨_, h⟩
    ·exact wpIn_of_plain hF hpo ih h
    ·exact absurd h hq
   ·rw [if_neg hw] at h ⊢
    exact ⟨fun f _ => hF f, ih _ _ h⟩
theorem startIn_ {F : Fence} {m : Nat} {P : Program} {ops : Array Oper} {Q : Exit → Act → World → Prop} {S : World → Prop} {ds : List Nat} {id n : Nat} {a : Act} {w : World} (hF : ∀ f, F.fn f) (hp : ops.all (fun o => plainOp o.op) = true) (hq : ¬ LetsOut Q) (l : Array Bool) (hm : P.follows .mixedOrders = true) (hn : ops.size = n) (hl : Array.replicate n false = l) (hS : S w.drew)
  (h : S w.drew → wpAnyLast P .any ops Q S ds n l a w.drew) : (Code.region id ops true).wpIn F m P Q a w := by
 subst hn
 subst hl
 refine wpIn_region_draw fun t => wpOpsIn_of_plain hF hp hq _ _ _ ?_
 simp only [Region.schedule, hm, Bool.true_or, if_true]
 exact wpAny_sound ops.size t _ a _ (wpAny_of_last _ _ _ _ (h hS))
end Go.Proofs.Ytbbkclcfmcjlgaa.P



namespace Go.Proofs.Ytbbkclcfmcjlgaa.P
open Go.RowKit Go.Proofs.YtbbkclcfmcjlgaaW.PrintWords Go.Proofs.YtbbkclcfmcjlgaaW.PrintLast Go.Proofs.YtbbkclcfmcjlgaaW.PrintMore
set_option linter.unusedVariables false
set_option linter.unusedSimpArgs false

def reach.or (i k : Int) : Nat → Int → List (List Bool) → List (List Bool)
 | 0, _, m => m
 | d + 1, j, m => reach.or i k d (j + 1) (m.set i.toNat ((m.getD i.toNat []).set j.toNat (rdOf false (m.getD i.toNat []) j || rdOf false (m.getD k.toNat []) j)))
def reach.put (i k : Int) (m : List (List Bool)) : List (List Bool) := m.set i.toNat ((m.getD i.toNat []).set k.toNat true)
def reach.one (i k : Int) (m : List (List Bool)) : List (List Bool) := reach.or i k ((reach.put i k m).getD k.toNat []).length 0 (reach.put i k m)
def reach.row (i : Int) (ks : List Int) (m : List (List Bool)) : List (List Bool) := ks.foldl (fun m k => reach.one i k m) m
def reach.step (n : Int) (bh : List (List Int)) (m : List (List Bool)) (i : Int) : List (List Bool) := reach.row i (rd_L3 bh i) (m.set i.toNat (List.replicate n.toNat false))
def reach.ok (n : Int) (o : List Int) : Bool := o.all fun x => decide (0 ≤ x) && decide (x < n)
def reach.f (k : Nat) (n : Int) (l : List S47) : Option (List (List Bool) × Int) := (precedence_Order.f k n l).bind fun t => if t.2 = 0 then ((precedence_read.f k n l).bind fun u => if 0 ≤ n ∧ n.toNat ≤ 11728124029610 ∧ t.1.length ≤ 140737488351232 ∧ (u.2.length : Int) = n ∧ reach.ok n t.1 = true ∧ u.2.all (reach.ok n) = true then some (t.1.reverse.foldl (reach.step n u.2) (List.replicate n.toNat []), 0) else none) else some ([], t.2)
theorem reach.mono : ∀ a0 a1 k, LeO (reach.f k a0 a1) (reach.f (k + 1) a0 a1) := by
 intro a0 a1 k
 unfold reach.f
 exact LeO.bind (precedence_Order.mono _ _ _) (fun t => LeO.ite (LeO.bind (precedence_read.mono _ _ _) (fun u => LeO.refl _)) (LeO.refl _))

def Shape (n : Int) (m : List (List Bool)) : Prop := m.length = n.toNat ∧ ∀ row ∈ m, row.length = 0 ∨ row.length = n.toNat
theorem getD_set_self {α : Type} (m : List (List α)) (i : Nat) (y : List α) (h : i < m.length) : (m.set i y).getD i [] = y := by
 rw [List.getD_eq_getElem?_getD, List.getElem?_set_self h]; rfl
theorem getD_set_ne {α : Type} (m : List (List α)) (i j : Nat) (y : List α) (h : i ≠ j) : (m.set i y).getD j [] = m.getD j [] := by
 rw [List.getD_eq_getElem?_getD, List.getElem?_set_ne h, List.getD_eq_getElem?_getD]
theorem Shape.set {n : Int} {m : List (List Bool)} (h : Shape n m) (i : Nat) (y : List Bool) (hy : y.length = 0 ∨ y.length = n.toNat) : Shape n (m.set i y) :=
 ⟨by rw [List.length_set]; exact h.1, fun row hr => (List.mem_or_eq_of_mem_set hr).elim (h.2 row) (fun e => by subst e; exact hy)⟩
theorem Shape.at {n : Int} {m : List (List Bool)} (h : Shape n m) (i : Nat) (hi : i < m.length) : (m.getD i []).length = 0 ∨ (m.getD i []).length = n.toNat := by
 rw [List.getD_eq_getElem?_getD, List.getElem?_eq_getElem hi]
 exact h.2 _ (List.getElem_mem hi)

structure RS (n : Int) (w w15 W0 : World) (go len cm : Nat) (W : World) (m : List (List Bool)) : Prop where
 s : Kd.S (Kd.slice 4 Kd.bool) 52 W w.heap.size (fun _ => True) (.slice (some ⟨go, 0, none⟩) len cm) m
 b : Below w.heap.size w W
 c : KC w15 W
 c0 : KC W0 W
 o : KeepsOthers W0 W
 sh : Shape n m
section
variable {n : Int} {w w15 W0 W W1 : World} {go len cm : Nat} {m : List (List Bool)}
theorem RS.lens (h : RS n w w15 W0 go len cm W m) : len = m.length ∧ m.length = n.toNat := ⟨(Kd.S_reads' h.s).1, h.sh.1⟩
theorem keeps_below {A B : World} (h : Below A.heap.size A B) : KeepsOthers A B := ⟨h.size, fun k o hk _ => (h.block k (blk_lt hk)).trans hk⟩
theorem RS.step (h : RS n w w15 W0 go len cm W m) (hb : Below W.heap.size W W1) : RS n w w15 W0 go len cm W1 m :=
 ⟨Kd.S_below h.s hb, bT_ h.b hb, h.c.trans (KC.below hb), h.c0.trans (KC.below hb), h.o.trans (keeps_below hb), h.sh⟩
theorem RS.drew (h : RS n w w15 W0 go len cm W m) : RS n w w15 W0 go len cm W.drew m := h.step (bD_ (Below.refl _ _))
theorem RS.put (h : RS n w w15 W0 go len cm W m) (hb : Below W.heap.size W W1) {v : Value} {y : List Bool} (hv : Kd.bool.R 4 W1 W.heap.size (fun _ => True) v y) (hy : y.length = n.toNat) (i : Int) (i0 : 0 ≤ i) (i1 : i < len) :
  RS n w w15 W0 go len cm (W1.setCell ⟨go, i.toNat, none⟩ v) (m.set i.toNat y) ∧ W1.frozen? ⟨go, i.toNat, none⟩ = false ∧ (∃ u, W1.cell? ⟨go, i.toNat, none⟩ = some u) := by
 obtain ⟨h1, _, h3, h4⟩ := S_put2 h.s (by decide) hb hv h.b.size i i0 i1
 have hty : ∃ cells, W1.heap[go]? = some (.cells cells 52 (0, 0)) := Kd.S_typed (Kd.S_below h.s hb) go rfl
 obtain ⟨cells, hc⟩ := hty
 have hg : w.heap.size ≤ go := Kd.S_base h.s go rfl
 have hs := KC.set hc (Or.inl rfl) i.toNat v
 have hbb := bT_ h.b hb
 exact ⟨⟨h1, below_set hbb hg, (h.c.trans (KC.below hb)).trans hs, (h.c0.trans (KC.below hb)).trans hs, (h.o.trans (keeps_below hb)).trans (KeepsOthers.setCell _ _ _), h.sh.set _ _ (.inr hy)⟩, h3, h4⟩
theorem RS.head (h : RS n w w15 W0 go len cm W m) (i : Int) (i0 : 0 ≤ i) (i1 : i < len) :
  ∃ A2 c2, W.cell? ⟨go, i.toNat, none⟩ = some (.slice A2 (m.getD i.toNat []).length c2) ∧ Kd.bool.C W A2 (m.getD i.toNat []).length (m.getD i.toNat []) := by
 obtain ⟨A2, c2, h1, _, _, h4⟩ := S_head2 h.s i i0 i1
 exact ⟨A2, c2, h1, h4⟩
theorem RS.at (h : RS n w w15 W0 go len cm W m) (i j : Int) (i0 : 0 ≤ i) (i1 : i < len) (j0 : 0 ≤ j) (j1 : j < (m.getD i.toNat []).length) :
  ∃ g2 c2, W.cell? ⟨go, i.toNat, none⟩ = some (.slice (some ⟨g2, 0, none⟩) (m.getD i.toNat []).length c2) ∧ W.cell? ⟨g2, j.toNat, none⟩ = some (.bool (rdOf false (m.getD i.toNat []) j)) ∧ W.frozen? ⟨g2, j.toNat, none⟩ = false ∧ g2 ≠ go ∧
   ∀ x, RS n w w15 W0 go len cm (W.setCell ⟨g2, j.toNat, none⟩ (.bool x)) (m.set i.toNat ((m.getD i.toNat []).set j.toNat x)) := by
 obtain ⟨g2, c2, h1, h2, h3, h4, _, h6, _, ⟨cells, hc⟩, h9⟩ := S_at2 h.s false i j i0 i1 j0 j1
 have hi : i.toNat < m.length := by have := h.lens.1; omega
 exact ⟨g2, c2, h1, h2, h3, h6, fun x => ⟨h9 x, below_set h.b h4, h.c.trans (KC.set hc (Or.inr rfl) _ _), h.c0.trans (KC.set hc (Or.inr rfl) _ _), h.o.trans (KeepsOthers.setCell _ _ _), h.sh.set _ _ (by rw [List.length_set]; exact h.sh.at _ hi)⟩⟩
end

def ReachI (n : Int) (bh : List (List Int)) (o : List Int) (m0 : List (List Bool)) (Am : Option Addr) (cm : Nat) (w w15 : World) (pre : List (Fin o.length)) (W : World) : Prop :=
 ∃ m : List (List Bool), Kd.S (Kd.slice 4 Kd.bool) 52 W w.heap.size (fun _ => True) (.slice Am m0.length cm) m ∧ Shape n m ∧ (pre.map (fun x => x.val) = List.range pre.length → m = (o.reverse.take pre.length).foldl (reach.step n bh) m0) ∧ KC w15 W ∧ Below w.heap.size w W
theorem ReachI.shape0 {n : Int} {m0 : List (List Bool)} (h : m0 = List.replicate n.toNat []) : Shape n m0 := by
 subst h
 refine ⟨by simp, fun row hr => .inl ?_⟩
 rw [List.eq_of_mem_replicate hr]; rfl
theorem ReachI.own {n : Int} {bh : List (List Int)} {o : List Int} {m0 : List (List Bool)} {Am : Option Addr} {cm : Nat} {w w15 : World} {B : Nat} (h1 : w.heap.size ≤ B) (h2 : w15.heap.size ≤ B) : OwnFrom B (ReachI n bh o m0 Am cm w w15) := by
 rintro pre W W' row ⟨m, hS, hsh, hm, hK, hB⟩ hg hr
 refine ⟨m, ?_, hsh, hm, hK.trans ?_, hB.grown hg hB.size (fun k e => Nat.le_trans h1 (hr k e).1)⟩
 ·refine Kd.S_mono (Kd.S_move (Kd.S_bound hS) (fun k hb => ?_)) (fun k hb => hb.1)
  obtain ⟨_, _, hlt, q, hq, cells, hc⟩ := hb
  refine hg.block k hlt (fun e => ?_)
  obtain ⟨_, o', ho, hoc⟩ := hr k e.symm
  rw [hc] at ho
  injection ho with ho
  subst ho; cases hoc
 ·refine ⟨hg.size, fun k cells t p hk _ _ => (hg.block k (blk_lt hk) (fun e => ?_)).trans hk⟩
  obtain ⟨_, o', ho, hoc⟩ := hr k e.symm
  rw [hk] at ho
  injection ho with ho
  subst ho; cases hoc
theorem ReachI.bound {n : Int} {o : List Int} (h : reach.ok n o = true) (x : Fin o.length) {ix i : Int} (e : back.at o x.val = (ix, i)) : 0 ≤ i ∧ i < n := by
 unfold reach.ok at h
 rw [List.all_eq_true] at h
 unfold back.at at e
 simp only [Prod.mk.injEq] at e
 obtain ⟨_, rfl⟩ := e
 have hx := x.isLt
 have hlt : ((o.length : Int) - 1 - x.val).toNat < o.length := by omega
 have := h (rd o ((o.length : Int) - 1 - x.val)) (by unfold rd; rw [List.getD_eq_getElem?_getD, List.getElem?_eq_getElem hlt]; exact List.getElem_mem hlt)
 simpa using this
theorem reach.ok_at {n : Int} {o : List Int} (h : reach.ok n o = true) (j : Int) (h0 : 0 ≤ j) (h1 : j < o.length) : 0 ≤ rd o j ∧ rd o j < n := by
 unfold reach.ok at h
 rw [List.all_eq_true] at h
 have hlt : j.toNat < o.length := by omega
 have := h (rd o j) (by unfold rd; rw [List.getD_eq_getElem?_getD, List.getElem?_eq_getElem hlt]; exact List.getElem_mem hlt)
 simpa using this
theorem reach.ok_row {n : Int} {bh : List (List Int)} (h : bh.all (reach.ok n) = true) (i : Int) (h0 : 0 ≤ i) (h1 : i < bh.length) : reach.ok n (rd_L3 bh i) = true := by
 rw [List.all_eq_true] at h
 have hlt : i.toNat < bh.length := by omega
 exact h (rd_L3 bh i) (by unfold rd_L3; rw [List.getD_eq_getElem?_getD, List.getElem?_eq_getElem hlt]; exact List.getElem_mem hlt)
theorem ReachI.next {n : Int} {bh : List (List Int)} {o : List Int} {m0 m : List (List Bool)} {pre : List (Fin o.length)} {x : Fin o.length} {ix i : Int} (e : back.at o x.val = (ix, i))
  (hm : pre.map (fun x => x.val) = List.range pre.length → m = (o.reverse.take pre.length).foldl (reach.step n bh) m0) (h : (pre ++ [x]).map (fun x => x.val) = List.range (pre ++ [x]).length) : reach.step n bh m i = (o.reverse.take (pre ++ [x]).length).foldl (reach.step n bh) m0 := by
 rw [List.map_append, List.length_append, List.length_singleton, List.range_succ] at h
 obtain ⟨h1, h2⟩ := List.append_inj' h rfl
 have hm' := hm h1
 have hx : x.val = pre.length := by simpa using h2
 unfold back.at at e
 simp only [Prod.mk.injEq] at e
 obtain ⟨_, rfl⟩ := e
 have hl : pre.length < o.reverse.length := by have := x.isLt; rw [List.length_reverse]; omega
 rw [List.length_append, List.length_singleton, List.take_succ_eq_append_getElem hl, List.foldl_append, ← hm', List.foldl_cons, List.foldl_nil]
 congr 1
 rw [List.getElem_reverse, hx]
 unfold rd
 have hl2 : pre.length < o.length := by rw [List.length_reverse] at hl; exact hl
 rw [List.getD_eq_getElem?_getD, show ((o.length : Int) - 1 - (pre.length : Nat)).toNat = o.length - 1 - pre.length by omega, List.getElem?_eq_getElem (by omega)]
 rfl
end Go.Proofs.Ytbbkclcfmcjlgaa.P



namespace Go.Proofs.Ytbbkclcfmcjlgaa.P
open Go.RowKit Go.Proofs.YtbbkclcfmcjlgaaW.PrintWords Go.Proofs.YtbbkclcfmcjlgaaW.PrintLast Go.Proofs.YtbbkclcfmcjlgaaW.PrintMore
set_option linter.unusedVariables false
set_option linter.unusedSimpArgs false
attribute [local go_sem] Oper.semAt_some

section
variable {F : Fence} {nn : Nat} {P : Program} {ops : Array Oper} {rest : List Oper} {o : Oper} {a : Act} {Q : Exit → Act → World → Prop} {W : World}
theorem gateIn_store {t : TypeId} {p : Tmp} {v : Operand} (_ho : o.op = .store t (.tmp p) v) (h : wpListIn F nn P ops Q (o :: rest) a W) : wpListIn F nn P ops Q (o :: rest) a W := h
theorem storeIn_event {w1 : World} (hgd : o.guard = none) {t : TypeId} {p : Tmp} {v : Operand} (ho : o.op = .store t (.tmp p) v) (hN : o.dst = none)
  (hrun : (execOp a.eval o).run P W = .ok .skip w1) (h : ∀ w', w' = w1 → wpListIn F nn P ops Q rest a w') : wpListIn F nn P ops Q (o :: rest) a W := by
 refine wpListIn_plain hgd fun K hK => ?_
 unfold Oper.wpIn
 refine ⟨?_, ?_⟩
 ·simp [Oper.about, ho]
 ·rw [Oper.semAt_plain F _ _ (by rw [ho]; intro c hc'; cases hc'), hrun]
  show K (a.put o.dst undef) w1
  rw [hN]
  exact hK _ _ (h _ rfl)
end

theorem cell_far {W : World} {p : Addr} {g j : Nat} (h : g ≠ p.block) (u : Value) : (W.setCell p u).cell? ⟨g, j, none⟩ = W.cell? ⟨g, j, none⟩ := by
 simp [World.cell?, Below.heap_setCell W p u g h]
theorem R_putObj {α : Type} {d : Kd α} {e base D : Nat} {ok : Nat → Prop} {W : World} {v : Value} {xs : List α} {o' : Obj} (h : d.R e W base ok v xs) (hD : W.heap[D]? = some o') (ho : o'.isCells = false) (o'' : Obj) : d.R e (W.putObj D o'') base ok v xs :=
 Kd.R_mono (Kd.R_move (Kd.R_bound h) (fun k hb => by
  obtain ⟨_, _, hlt, q, hq, cells, hc⟩ := hb
  refine (grownBy_putObj' W D o'').block k hlt (fun e => ?_)
  injection e with e
  subst e; rw [hc] at hD
  injection hD with hD
  subst hD
  cases ho)) (fun k hb => hb.1)
set_option maxHeartbeats 16000000 in
set_option maxRecDepth 100000 in
theorem reach.calls (k : Nat) (n : Int) (A1 : Option Addr) (c1 : Nat) (l : List S47) (r1 : List (List Bool)) (r2 : Int) (w : World) (hr1 : Kd.C k47 w A1 l.length l) (hc1 : l.length ≤ c1) (h : reach.f k n l = some (r1, r2)) :
  Calls Try.prog 34 #[.int .i64 n, .slice A1 l.length c1] w fun e w' => ∃ v0_ : Value, e = .returned (.tuple #[v0_, .int .i64 r2]) ∧ Kd.R (Kd.slice 4 Kd.bool) 52 w' w.heap.size (fun _ => True) v0_ r1 ∧ Below w.heap.size w w' := by
 have HR1 := aK hr1
 have HC1 := aK hc1
 have hu60 := Try.underlying60
 clear hr1 hc1
 have HB := aK (Below.refl w.heap.size w)
 unfold reach.f at h
 obtain ⟨⟨o, e⟩, ho, H⟩ := oB_ h
 have HO := aK ho
 clear h ho
 dsimp only at H
 refine callsIn_wide.1 (callsIn_of_wp_marks (n := 5) Try.func34 rfl trivial ?_ rfl)
 simp only [Try.ntmps34, List.size_toArray, List.length_cons, List.length_nil, Nat.reduceAdd, Nat.reduceSub, Array.replicate_succ, Array.replicate_zero, List.push_toArray, List.append_toArray, List.nil_append, List.cons_append]
 refine wpIn_wide.2 ?_
 by_cases z : e = 0
 ·rw [if_pos z] at H; subst z
  obtain ⟨⟨bf, bh⟩, hu, H⟩ := oB_ H
  have HU := aK hu
  dsimp only at H
  by_cases hc : 0 ≤ n ∧ n.toNat ≤ 11728124029610 ∧ o.length ≤ 140737488351232 ∧ (bh.length : Int) = n ∧ reach.ok n o = true ∧ bh.all (reach.ok n) = true
  ·rw [if_pos hc] at H
   simp only [Option.some.injEq, Prod.mk.injEq] at H
   obtain ⟨hEq, rfl⟩ := H
   have HR := aK hEq
   obtain ⟨m0, hm0⟩ : ∃ m0 : List (List Bool), m0 = List.replicate n.toNat [] := ⟨_, rfl⟩
   have HM0 := aK hm0; have HCK := aK hc
   have n0 := hc.1
   have n1 := hc.2.1
   have n0' := eq_true n0
   clear hEq hc hu hm0 H
   go_wp2_with (first | ((with_reducible refine gate_dst (N := 2) rfl ?_); go_must (refine box_event ?hg (N := 2) ?hd (cs := #[.int .i64 n]) (t := 3) ?hr ?_; (case hd => rfl); (case hg => rfl); (case hr => first | (go_simp; done) | (go_simp; rfl)); intro g hg w10 hbox hb; have n1_ := aK (bT_ HB.out hb); have BK := aK hbox; have hzz : w10.cell? ⟨g, 0, none⟩ = some (.int .i64 n) := (blk_cell hbox 0).trans rfl; clear HB hb hbox hg; have HB := n1_; clear n1_)) | (go_at_call 25; go_must ((with_reducible refine (precedence_Order.calls k n _ _ l _ _ _ ?s1 ?s2 HO.out).mono ?_); (case s1 => exact Kd.C_below HR1.out HB.out); (case s2 => exact HC1.out); rintro e w8 ⟨v0, rfl, hv, hb⟩; have n_ := aK (bT_ HB.out hb); have HV := aK (Kd.R_lower hv (bZ_ HB.out)); have nb := aK ((hb.block _ (blk_lt BK.out)).trans BK.out); clear HB hb hv hzz BK; have HB := n_; have BK := nb; have hzz : w8.cell? ⟨g, 0, none⟩ = some (.int .i64 n) := (blk_cell BK.out 0).trans rfl; clear n_ nb)) | (go_at_call 42; go_must ((with_reducible refine (precedence_read.calls k n _ _ l _ _ _ ?s1 ?s2 HU.out).mono ?_); (case s1 => exact Kd.C_below HR1.out HB.out); (case s2 => exact HC1.out); rintro e w9 ⟨v1, v2, rfl, hv1, hv2, hb⟩; have n_ := aK (bT_ HB.out hb); have nv := aK (Kd.R_below HV.out hb); have HF := aK (Kd.R_mono (Kd.R_lower (Kd.S_R hv1) (bZ_ HB.out)) (fun _ _ => trivial) : Kd.R (Kd.slice 3 (Kd.int .i64)) 31 w9 w.heap.size (fun _ => True) v1 bf); have HH := aK (Kd.R_mono (Kd.R_lower (Kd.S_R hv2) (bZ_ HB.out)) (fun _ _ => trivial) : Kd.R (Kd.slice 3 (Kd.int .i64)) 31 w9 w.heap.size (fun _ => True) v2 bh); have nb := aK ((hb.block _ (blk_lt BK.out)).trans BK.out); clear HB HV hb hv1 hv2 hzz BK; have HB := n_; have HV := nv; have BK := nb; have hzz : w9.cell? ⟨g, 0, none⟩ = some (.int .i64 n) := (blk_cell BK.out 0).trans rfl; clear n_ nb nv)) | ((with_reducible refine gate_dst (N := 8) rfl ?_); go_must (refine box_event ?hg (N := 8) ?hd (cs := #[.slice none 0 0, .slice none 0 0]) (t := 60) ?hr ?_; (case hd => rfl); (case hg => rfl); (case hr => first | (go_simp; done) | (go_simp; rfl)); intro g60 hg w10 hbox hb; have n_ := aK (bT_ HB.out hb); have nv := aK (Kd.R_below HV.out hb); have nh := aK (Kd.R_below HH.out hb); have nf := aK (Kd.R_below HF.out hb); have nb := aK ((hb.block _ (blk_lt BK.out)).trans BK.out); have BK60 := aK hbox; have GB60 := aK (by rw [hg]; exact bZ_ HB.out : w.heap.size ≤ g60); clear HB HV HH HF hb hzz BK hbox hg; have HB := n_; have HV := nv; have HH := nh; have HF := nf; have BK := nb; clear n_ nb nv nh nf; obtain ⟨Af, cf, ef⟩ := Kd.R_slice HF.out; subst ef; obtain ⟨Ah, ch, eh⟩ := Kd.R_slice HH.out; subst eh; have hfz := blk_frozen BK60.out 0; have hfz1 := blk_frozen BK60.out 1; have hz0 : w10.cell? ⟨g60, 0, none⟩ = some (.slice none 0 0) := (blk_cell BK60.out 0).trans rfl; have hz1 : w10.cell? ⟨g60, 1, none⟩ = some (.slice none 0 0) := (blk_cell BK60.out 1).trans rfl)) | ((with_reducible refine gate_store (t := 60) (p := 8) rfl ?_); go_must (refine store_event (t := 60) (p := 8) (v := ?vo_) (w1 := ((w10.setCell ⟨g60, 0, none⟩ (.slice Af bf.length cf)).setCell ⟨g60, 1, none⟩ (.slice Ah bh.length ch))) ?hg ?ho ?hn ?hr ?_; (case ho => rfl); (case hg => rfl); (case hn => rfl); (case hr => first | (go_simp; done) | (go_simp; rfl)); intro w11 hw; have n_ := aK (show Below w.heap.size w w11 by rw [hw]; exact below_set (below_set HB.out GB60.out) GB60.out); have nv := aK (show Kd.R (Kd.int .i64) 3 w11 w.heap.size (fun _ => True) v0 o by rw [hw]; exact Kd.R_set (Kd.R_set HV.out BK60.out (by decide) 0 _) (blk_set BK60.out 0 _) (by decide) 1 _); have nh := aK (show Kd.R (Kd.slice 3 (Kd.int .i64)) 31 w11 w.heap.size (fun _ => True) (.slice Ah bh.length ch) bh by rw [hw]; exact Kd.R_set (Kd.R_set HH.out BK60.out (by decide) 0 _) (blk_set BK60.out 0 _) (by decide) 1 _); have nb := aK (show w11.heap[g]? = some (.cells #[.int .i64 n] 3 (0, 0)) by rw [hw]; exact blk_far (blk_far BK.out (blk_ne BK.out BK60.out (by decide)) _) (blk_ne BK.out BK60.out (by decide)) _); have nk := aK (show w11.heap[g60]? = some (.cells #[.slice Af bf.length cf, .slice Ah bh.length ch] 60 (0, 0)) by rw [hw]; exact blk_put (blk_put BK60.out 0 _ rfl) 1 _ rfl); clear HB HV HH HF BK BK60 hz0 hz1 hfz hfz1 hw; have HB := n_; have HV := nv; have HH := nh; have BK := nb; have BK60 := nk; clear n_ nb nv nh nk; have hzz : w11.cell? ⟨g, 0, none⟩ = some (.int .i64 n) := (blk_cell BK.out 0).trans rfl)) | ((with_reducible refine gate_dst (N := 29) rfl ?_); go_must (refine Kd.S_make (Kd.slice 4 Kd.bool) _ 52 rfl (N := 29) rfl 48 _ _ rfl n rfl rfl Try.underlying48 (.slice none 0 0) 24 info52 rfl (by decide) (by omega) [] (ok := fun _ => True) (okp := fun _ => True) ⟨_, rfl, Kd.R_nil _ _ _ _ _⟩ (fun _ hk => hk) trivial n0 (Nat.le_trans (Nat.mul_le_mul_right _ n1) (by omega)) (Below.refl _ _) (Nat.le_refl _) ?_; intro vm w12 ho hb hg_ hnew_; clear hg_ hnew_; rw [← HM0.out] at ho; have n_ := aK (bT_ HB.out hb); have HS := aK (Kd.S_mono (Kd.S_lower ho (bZ_ HB.out)) (fun _ _ => trivial) : Kd.S (Kd.slice 4 Kd.bool) 52 w12 w.heap.size (fun _ => True) vm m0); have nv := aK (Kd.R_below HV.out hb); have nh := aK (Kd.R_below HH.out hb); have nb := aK ((hb.block _ (blk_lt BK.out)).trans BK.out); have nk := aK ((hb.block _ (blk_lt BK60.out)).trans BK60.out); clear HB HV HH BK BK60 ho hb hzz; have HB := n_; have HV := nv; have HH := nh; have BK := nb; have BK60 := nk; clear n_ nb nv nh nk)) | ((with_reducible refine gate_dst (N := 9) rfl ?_); go_must (refine box_event ?hg (N := 9) ?hd (cs := #[.slice none 0 0]) (t := 48) ?hr ?_; (case hd => rfl); (case hg => rfl); (case hr => first | (go_simp; done) | (go_simp; rfl)); intro g48 hg w13 hbox hb; have n_ := aK (bT_ HB.out hb); have ns := aK (Kd.S_below HS.out hb); have nv := aK (Kd.R_below HV.out hb); have nh := aK (Kd.R_below HH.out hb); have nb := aK ((hb.block _ (blk_lt BK.out)).trans BK.out); have nk := aK ((hb.block _ (blk_lt BK60.out)).trans BK60.out); have BK48 := aK hbox; have GB48 := aK (by rw [hg]; exact bZ_ HB.out : w.heap.size ≤ g48); clear HB HS HV HH hb BK BK60 hbox hg; have HB := n_; have HS := ns; have HV := nv; have HH := nh; have BK := nb; have BK60 := nk; clear n_ nb nv nh nk ns; obtain ⟨Am, cm, em⟩ := Kd.S_slice HS.out; subst em; have hfz := blk_frozen BK48.out 0; have hz0 : w13.cell? ⟨g48, 0, none⟩ = some (.slice none 0 0) := (blk_cell BK48.out 0).trans rfl)) | ((with_reducible refine gate_store (t := 48) (p := 9) rfl ?_); go_must (refine store_event (t := 48) (p := 9) (v := ?vo2_) (w1 := (w13.setCell ⟨g48, 0, none⟩ (.slice Am m0.length cm))) ?hg ?ho ?hn ?hr ?_; (case ho => rfl); (case hg => rfl); (case hn => rfl); (case hr => first | (go_simp; done) | (go_simp; rfl)); intro w14 hw; have n_ := aK (show Below w.heap.size w w14 by rw [hw]; exact below_set HB.out GB48.out); have ns := aK (show Kd.S (Kd.slice 4 Kd.bool) 52 w14 w.heap.size (fun _ => True) (.slice Am m0.length cm) m0 by rw [hw]; exact Kd.S_set HS.out BK48.out (by decide) 0 _); have nv := aK (show Kd.R (Kd.int .i64) 3 w14 w.heap.size (fun _ => True) v0 o by rw [hw]; exact Kd.R_set HV.out BK48.out (by decide) 0 _); have nh := aK (show Kd.R (Kd.slice 3 (Kd.int .i64)) 31 w14 w.heap.size (fun _ => True) (.slice Ah bh.length ch) bh by rw [hw]; exact Kd.R_set HH.out BK48.out (by decide) 0 _); have nb := aK (show w14.heap[g]? = some (.cells #[.int .i64 n] 3 (0, 0)) by rw [hw]; exact blk_far BK.out (blk_ne BK.out BK48.out (by decide)) _); have n6 := aK (show w14.heap[g60]? = some (.cells #[.slice Af bf.length cf, .slice Ah bh.length ch] 60 (0, 0)) by rw [hw]; exact blk_far BK60.out (blk_ne BK60.out BK48.out (by decide)) _); have nk := aK (show w14.heap[g48]? = some (.cells #[.slice Am m0.length cm] 48 (0, 0)) by rw [hw]; exact blk_put BK48.out 0 _ rfl); clear HB HS HV HH BK BK60 BK48 hz0 hfz hw; have HB := n_; have HS := ns; have HV := nv; have HH := nh; have BK := nb; have BK60 := n6; have BK48 := nk; clear n_ nb nv nh nk ns n6; obtain ⟨Ao, co, eo⟩ := Kd.R_slice HV.out; subst eo)) | (go_at_call 51; go_must (refine (callsIn_wide.1 (back_in Fence.wide 3 trivial rfl Ao o.length co _)).mono ?_; rintro e w15 ⟨rfl, hw⟩; obtain ⟨gi, hgi⟩ : ∃ gi : Nat, gi = w14.heap.size := ⟨_, rfl⟩; rw [← hgi]; have hbox : w15.heap[gi]? = some (.cells #[.slice Ao o.length co] 31 (0, 0)) := (by rw [hw, hgi]; exact blk_new w14 _); have hb : Below w14.heap.size w14 w15 := (by rw [hw]; exact bA_ (Below.refl _ _) _); have n_ := aK (bT_ HB.out hb); have ns := aK (Kd.S_below HS.out hb); have nv := aK (Kd.R_below HV.out hb); have nh := aK (Kd.R_below HH.out hb); have nb := aK ((hb.block _ (blk_lt BK.out)).trans BK.out); have n6 := aK ((hb.block _ (blk_lt BK60.out)).trans BK60.out); have nk := aK ((hb.block _ (blk_lt BK48.out)).trans BK48.out); have BKI := aK hbox; clear HB HS HV HH BK BK60 BK48 hbox hb hw hgi; have HB := n_; have HS := ns; have HV := nv; have HH := nh; have BK := nb; have BK60 := n6; have BK48 := nk; clear n_ nb nv nh nk ns n6)))
   have hI0 : ∀ (B : Nat), w.heap.size ≤ B → w15.heap.size ≤ B → OwnFrom B (ReachI n bh o m0 Am cm w w15) := fun B h1 h2 => ReachI.own h1 h2
   refine wpIn_wide.1 (wpIn_rangeFunc_ownG (F := Fence.wide) (n := 5) rfl (by omega) (gf := 55) (lb := #[.pointer (some ⟨gi, 0, none⟩)]) rfl trivial (Go.Proofs.enters_of Try.func55 (by kernel_rfl) rfl)
    (back_stops Fence.wide 4 trivial rfl (by omega) gi w.heap.size co Ao (fun _ => True) o HCK.out.2.2.1 w15 BKI.out HV.out) (fun h k => h.trans k) (fun W l o' o'' hl hh hc hw => KC.putObj hh hc _) (Below.refl _ _) (fun _ => rfl)
    (ReachI n bh o m0 Am cm w w15) (fun _ _ _ => False) (hI0 _ HB.out.size (Nat.le_refl _)) (fun _ _ _ _ _ hs _ _ => hs) ⟨m0, HS.out, ReachI.shape0 HM0.out, fun _ => rfl, KC.refl _, HB.out⟩
    (fun x => { tmps := #[.int .i64 n, .slice A1 l.length c1, .pointer (some ⟨g, 0, none⟩), undef, .slice none 0 0, .int .i64 0, .slice Ao o.length co, .int .i64 0, .pointer (some ⟨g60, 0, none⟩), .pointer (some ⟨g48, 0, none⟩), undef, .int .i64 (back.at o x.val).2, undef, undef, undef, undef, .tuple #[.slice Ao o.length co, .int .i64 0], .int .i64 n, .slice A1 l.length c1, .tuple #[.slice Ao o.length co, .int .i64 0], .slice Ao o.length co, .int .i64 0, .int .i64 0, .bool false, undef, .int .i64 n, .slice A1 l.length c1, .agg #[.slice Af bf.length cf, .slice Ah bh.length ch], .int .i64 n, .slice Am m0.length cm, .slice Ao o.length co, .func (.func 55) #[] #[.pointer (some ⟨gi, 0, none⟩)], .int .i64 (back.at o x.val).1, .int .i64 (back.at o x.val).2, undef, undef, undef, undef, undef, undef, undef, undef, undef, undef, undef, undef, undef, undef, undef, undef, undef, undef, undef, undef, undef, undef, undef, undef, undef, undef, undef, undef, undef, undef, undef, undef, undef, undef, undef, undef, undef, undef, undef, undef, undef, undef, undef, undef, undef, undef, undef, undef, undef, undef], defers := [] }) ?assign ?body ?done ?stop)
   case assign =>
    intro l x W K hK
    gi_wp2
    exact hK
   case stop =>
    rintro D c pre W _ _ h _
    exact h.elim
   case done =>
    rintro D ys W hD hys ⟨m, hSm, hsh, hm, hKC, hBW⟩ hK
    have hl : ys.length = o.length := by have := congrArg List.length hys; simpa using this
    have hmm := hm (by rw [hl]; exact hys)
    rw [hl, show o.reverse.take o.length = o.reverse by rw [← List.length_reverse, List.take_length]] at hmm
    have hmm' : m = r1 := by rw [hmm, HM0.out]; exact HR.out
    clear hmm; have hmm := hmm'; clear hmm'; subst hmm
    have hz48 : W.cell? ⟨g48, 0, none⟩ = some (.slice Am m0.length cm) := (blk_cell (hKC.2 g48 _ _ _ BK48.out (by decide) (by decide)) 0).trans rfl
    have HSM := aK hSm; have HBW := aK hBW; have HKK := aK hK; have HDD := aK hD
    have HNM : Aside0 (m0.length = m.length) := ⟨(Kd.S_reads' hSm).1⟩
    clear hm hsh hys hl hSm hBW hK hD hI0; go_wp2
    refine ⟨by simp, .inl ⟨_, _, rfl, run_takeDeferred HKK.out, ?_⟩⟩
    refine ⟨.tuple #[.slice Am m0.length cm, .int .i64 0], ?_, _, rfl, ?_, ?_⟩
    ·simp [results, Try.f34, go_sem]
    ·exact R_putObj (Kd.S_R HSM.out) HKK.out rfl _
    ·exact HBW.out.trans (belowK_b (w := w) (Nat.le_refl _) W D _ _ (Nat.le_trans HB.out.size HDD.out) HKK.out rfl rfl)
   case body =>
    rintro l pre x W hI _
    have hn := HCK.out.1
    have hn1 := HCK.out.2.1
    have hbl := HCK.out.2.2.2.1
    have ho := HCK.out.2.2.2.2.1
    have hbo := HCK.out.2.2.2.2.2
    have hH := HH.out
    have hBK := BK.out
    have hBK60 := BK60.out
    have hBK48 := BK48.out
    clear n0 n1 n0' hI0 HB HS HV HH BK BK60 BK48 BKI HO HU HCK HR HR1 HC1 HM0
    obtain ⟨m, hS, hsh, hm, hKC, hBW⟩ := hI
    generalize hat : back.at o x.val = p
    obtain ⟨ix, i⟩ := p
    dsimp only
    have hi := ReachI.bound ho x hat
    obtain ⟨go, co', eo, gb, gl, ge⟩ := Kd.S_form hS (by have := hsh.1; omega)
    injection eo with e1 e2 e3
    subst e1; subst e3
    have hRS : RS n w w15 W go m0.length cm W m := ⟨hS, hBW, hKC, KC.refl _, KeepsOthers.refl _, hsh⟩
    have hlen := hRS.lens
    have HRS := aK hRS.drew
    have HAT := aK hat; have HM := aK hm
    have hz48 : W.cell? ⟨g48, 0, none⟩ = some (.slice (some ⟨go, 0, none⟩) m0.length cm) := (blk_cell (hKC.2 g48 _ _ _ hBK48 (by decide) (by decide)) 0).trans rfl
    have hzn : W.cell? ⟨g, 0, none⟩ = some (.int .i64 n) := (blk_cell (hKC.2 g _ _ _ hBK (by decide) (by decide)) 0).trans rfl
    have hi0 := eq_true hi.1
    have hi1 : (i < (m0.length : Int)) = True := eq_true (by omega)
    have hi2 : (i < (bh.length : Int)) = True := eq_true (by omega)
    have HI := aK hi; have HL := aK hlen
    have HN := aK (And.intro hn hn1)
    have HBL := aK hbl; have HBO := aK hbo; have HH := aK hH; have HB48 := aK hBK48; have HB60 := aK hBK60; clear e2 hi hlen hn hn1 hbl hbo ho hH hBK hBK60 hBK48 hRS hS hsh hm hKC hBW hat gb gl ge
    gi_wp2
    refine startIn_ (fun _ => trivial) (by kernel_rfl) (by rintro ⟨_, _, h⟩; exact h) (n := 6) (S := fun w' => w'.cell? ⟨g48, 0, none⟩ = some (.slice (some ⟨go, 0, none⟩) m0.length cm) ∧ w'.cell? ⟨g, 0, none⟩ = some (.int .i64 n)) (ds := [5]) #[false, false, false, false, false, false] (by kernel_rfl) rfl rfl ⟨hz48, hzn⟩ (fun hHeld => ?_)
    generalize W.drew = wd at HRS hHeld ⊢
    refine pure_ (i := 1) (N := some 35) (v := ?_) (a' := ?_) #[false, true, false, false, false, false] rfl rfl (by kernel_rfl) (fun _ _ _ h => h) (Or.inl ⟨by rfl, ?_⟩) ?_ ?_
    rotate_left; ·intro w'; go_simp; with_reducible rfl
    rotate_left; ·simp only [Act.put, sA_, sZ_, sS_, i64_w, i32_w]; rfl
    refine take_ (i := 0) (N := some 34) (v := ?_) (a' := ?_) #[true, true, false, false, false, false] rfl rfl (by kernel_rfl) (fun _ _ _ h => h) (Or.inl ⟨by rfl, ?_⟩) hHeld ?_ ?_
    rotate_left
    ·rintro w' ⟨s0, s1⟩; go_simp; with_reducible rfl
    rotate_left; ·simp only [Act.put, sA_, sZ_, sS_, i64_w, i32_w]; rfl
    refine take_ (i := 2) (N := some 36) (v := ?_) (a' := ?_) #[true, true, true, false, false, false] rfl rfl (by kernel_rfl) (fun _ _ _ h => h) (Or.inl ⟨by rfl, ?_⟩) hHeld ?_ ?_
    rotate_left
    ·rintro w' ⟨s0, s1⟩; go_simp; with_reducible rfl
    rotate_left; ·simp only [Act.put, sA_, sZ_, sS_, i64_w, i32_w]; rfl
    refine one_ (i := 3) (N := some 37) #[true, true, true, true, false, false] rfl rfl (by kernel_rfl) (by decide) (fun K hK => ?_)
    refine Kd.R_make_step Kd.bool _ 4 (by rfl) (N := 37) rfl 52 _ _ rfl n rfl rfl Try.underlying52 (.bool false) 1 info4 rfl (by decide) (by omega) false (ok := fun _ => True) (okp := fun _ => True) rfl (fun _ hk => hk) trivial HN.out.1 (by have := HN.out.2; omega) (Below.refl _ _) (Nat.le_refl _) ?_
    intro vr w3 ho_ hb_ hg_ hnew_; clear hg_ hnew_
    have hc48 := (hb_.cell (World.block_lt_of_cell? _ _ hHeld.1)).trans hHeld.1
    have hcn := (hb_.cell (World.block_lt_of_cell? _ _ hHeld.2)).trans hHeld.2
    have hput := HRS.out.put hb_ ho_ (by simp) i HI.out.1 (by have := HL.out; have := HI.out; omega)
    have hfroz := hput.2.1
    obtain ⟨uu, hcell⟩ := hput.2.2
    obtain ⟨ar, cr, er⟩ := Kd.R_slice1 ho_ (by have := HI.out; simp; omega)
    subst er
    simp only [List.length_replicate] at hput ho_ ⊢
    clear hb_
    refine hK.out _ _ ⟨hc48, hcn⟩ (fun hHeld => ?_)
    clear hK K
    refine norm_ (a' := ?_) ?_ ?_
    rotate_left
    ·show Act.put _ (some 37) _ = _
     simp only [Act.put, sA_, sZ_, sS_, i64_w, i32_w]; rfl
    refine pure_ (i := 4) (N := some 38) (v := ?_) (a' := ?_) #[true, true, true, true, true, false] rfl rfl (by kernel_rfl) (fun _ _ _ h => h) (Or.inl ⟨by rfl, ?_⟩) ?_ ?_
    rotate_left; ·intro w'; go_simp; with_reducible rfl
    rotate_left; ·simp only [Act.put, sA_, sZ_, sS_, i64_w, i32_w]; rfl
    refine last_ (i := 5) (N := none) #[true, true, true, true, true, true] rfl rfl (by kernel_rfl) (by decide) (fun K hK => ?_)
    refine skip_ (w1 := w3.setCell ⟨go, i.toNat, none⟩ (.slice (some ar) n.toNat cr)) (by rfl) rfl ?_ ?_
    ·go_simp
     try rfl
    refine hK.out _ _ ?_
    clear hK K
    refine done_ (by kernel_rfl) ?_
    obtain ⟨w4, hw4⟩ : ∃ w4 : World, w4 = w3.setCell ⟨go, i.toNat, none⟩ (.slice (some ar) n.toNat cr) := ⟨_, rfl⟩
    have HRS4 := aK (hput.1)
    rw [← hw4] at HRS4 ⊢
    clear hput hw4 hcell hfroz HRS hHeld hz48 hzn ho_
    obtain ⟨m1, hm1⟩ : ∃ m1 : List (List Bool), m1 = m.set i.toNat (List.replicate n.toNat false) := ⟨_, rfl⟩
    rw [← hm1] at HRS4; have HM1 := aK hm1
    have HRL : Aside0 ((m1.getD i.toNat []).length = n.toNat) := ⟨by rw [hm1, getD_set_self _ _ _ (by have := HL.out; have := HI.out; omega)]; simp⟩
    clear hm1
    have hz60 : w4.cell? ⟨g60, 1, none⟩ = some (.slice Ah bh.length ch) := (blk_cell (HRS4.out.c.2 g60 _ _ _ HB60.out (by decide) (by decide)) 1).trans rfl
    have HH4 := KC.row HH.out HRS4.out.c (fun q hq => by simp [Kd.slice, Kd.int, Kd.scalar] at hq; rcases hq with rfl | rfl <;> decide)
    obtain ⟨gh, ch', eh, _, _, _⟩ := Kd.R_form HH4 (by have := HBL.out; have := HI.out; omega)
    injection eh with e1 e2 e3
    subst e1; subst e3
    obtain ⟨c3, _, ⟨v3, rfl, hr3⟩, hcc3, _⟩ := Kd.R_elem HH4 [] i HI.out.1 (by have := HBL.out; have := HI.out; omega)
    have hx3 := hcc3 0 _ rfl
    rw [Nat.add_zero, show (Kd.slice 3 (Kd.int .i64)).sz = 1 from rfl, Nat.mul_one] at hx3
    obtain ⟨A3, ca3, e3⟩ := Kd.R_slice hr3
    subst e3
    have hok3 := reach.ok_row HBO.out i HI.out.1 (by have := HBL.out; have := HI.out; omega)
    obtain ⟨ks, hks⟩ : ∃ ks : List Int, ks = rd_L3 bh i := ⟨_, rfl⟩
    rw [show bh.getD i.toNat [] = ks from hks.symm] at hr3 hx3
    rw [← hks] at hok3; have HR3 := aK hr3; have HOK3 := aK hok3; have HKS := aK hks
    have HMX := aK (Kd.C_max (Kd.R_reads' hr3).2.2)
    obtain ⟨mf, hmf⟩ : ∃ mf : List (List Bool), reach.row i (ks.drop (0 : Int).toNat) m1 = mf := ⟨_, rfl⟩
    have HMF := aK hmf
    have K4 := aK HRS4.out.c0
    have O4 := aK HRS4.out.o
    have RS4 := aK (show RS n w w15 w4 go m0.length cm w4 m1 from ⟨HRS4.out.s, HRS4.out.b, HRS4.out.c, KC.refl _, KeepsOthers.refl _, HRS4.out.sh⟩)
    clear e2 hcc3 hr3 hok3 hks hmf HRS4 HH4
    gi_wp2
    gi_loopw [45] (fun v45 wr => ∃ (xv : Int) (mr : List (List Bool)), v45 = .int .i64 xv ∧ Aside0 (0 ≤ xv ∧ xv ≤ ks.length) ∧ Aside0 (RS n w w15 w4 go m0.length cm wr mr) ∧ Aside0 ((mr.getD i.toNat []).length = n.toNat) ∧ Aside0 (reach.row i (ks.drop xv.toNat) mr = mf))
     (fun v45 _ => ((ks.length : Int) - intOf v45).toNat)
    case atStart => exact ⟨0, m1, rfl, ⟨by omega⟩, RS4, HRL, HMF⟩
    case round =>
     clear hz60 hx3 RS4
     obtain ⟨xv, mr, rfl, HX, HRSr, HRLr, HMFr⟩ := hrel
     have b0 : 0 ≤ xv := HX.out.1
     by_cases hlt : xv < (ks.length : Int)
     ·have b1 : xv ≤ 9223372036854775806 := by have := HMX.out; omega
      have HR3r := KC.row HR3.out HRSr.out.c0 (fun q hq => by simp [Kd.int, Kd.scalar] at hq; subst hq; decide)
      obtain ⟨g3, c3', e3, _, _, _⟩ := Kd.R_form HR3r (by omega)
      injection e3 with e1 e2 e4
      subst e1; subst e4
      obtain ⟨hcx0, _⟩ := Kd.R_celln 0 HR3r xv b0 hlt
      have hcx : wr.cell? ⟨g3, xv.toNat, none⟩ = some (.int .i64 (rd ks xv)) := hcx0
      have hk := reach.ok_at HOK3.out xv b0 hlt
      have HDR : Aside0 (ks.drop xv.toNat = rd ks xv :: ks.drop (xv + 1).toNat) := ⟨by
       have hl : xv.toNat < ks.length := by omega
       rw [List.drop_eq_getElem_cons hl, show (xv + 1).toNat = xv.toNat + 1 by omega]
       congr 1
       unfold rd
       rw [List.getD_eq_getElem?_getD, List.getElem?_eq_getElem hl]
       rfl⟩
      generalize rd ks xv = k at hcx hk HDR
      obtain ⟨g2, c2, h1, h2, h3, h4, h5⟩ := HRSr.out.at i k HI.out.1 (by have := HL.out; have := HI.out; omega) hk.1 (by rw [HRLr.out]; omega)
      obtain ⟨rl, hrl⟩ : ∃ rl : Nat, (mr.getD i.toNat []).length = rl := ⟨_, rfl⟩
      rw [hrl] at h1
      have HRN : Aside0 (rl = n.toNat) := ⟨hrl.symm.trans HRLr.out⟩
      clear hrl
      have hz48 : wr.cell? ⟨g48, 0, none⟩ = some (.slice (some ⟨go, 0, none⟩) m0.length cm) := (blk_cell (HRSr.out.c.2 g48 _ _ _ HB48.out (by decide) (by decide)) 0).trans rfl
      have hx0' := eq_true b0
      have hx1' := eq_true hlt
      have hxb := decide_eq_true hlt
      have hk0 := eq_true hk.1
      have hk1 : (k < (m0.length : Int)) = True := eq_true (by have := HL.out; have := HI.out; omega)
      have hk2 : (k < (rl : Int)) = True := eq_true (by have := HRN.out; omega)
      have HK := aK hk
      have HP5 := aK (show RS n w w15 w4 go m0.length cm (wr.setCell ⟨g2, k.toNat, none⟩ (.bool true)) (reach.put i k mr) from h5 true)
      clear hcx0 HR3r e2 hk h5 h4
      gi_wp2_with ((with_reducible refine gateIn_store (t := 4) (p := 54) rfl ?_); go_must (refine storeIn_event (t := 4) (p := 54) (v := ?vo3_) (w1 := (wr.setCell ⟨g2, k.toNat, none⟩ (.bool true))) ?hg ?ho ?hn ?hr ?_; (case ho => rfl); (case hg => rfl); (case hn => rfl); (case hr => first | (go_simp; done) | (go_simp; rfl)); intro w5 hw5; rw [← hw5] at HP5; clear hcx h1 h2 h3 hz48 hw5; obtain ⟨A4, c4, h6, h7⟩ := HP5.out.head k HK.out.1 (by have := HL.out; have := HK.out; omega); have hz48 : w5.cell? ⟨g48, 0, none⟩ = some (.slice (some ⟨go, 0, none⟩) m0.length cm) := (blk_cell (HP5.out.c.2 g48 _ _ _ HB48.out (by decide) (by decide)) 0).trans rfl; have HSL := aK (HP5.out.sh.at k.toNat (by have := HP5.out.lens; have := HK.out; omega)); have HRL5 : Aside0 (((reach.put i k mr).getD i.toNat []).length = n.toNat) := ⟨by unfold reach.put; rw [getD_set_self _ _ _ (by have := HRSr.out.lens; have := HI.out; omega), List.length_set]; exact HRLr.out⟩; have HO5 : Aside0 (reach.or i k (((reach.put i k mr).getD k.toNat []).length - (0 : Int).toNat) 0 (reach.put i k mr) = reach.one i k mr) := ⟨rfl⟩; generalize reach.put i k mr = m5 at h6 h7 HP5 HSL HRL5 HO5; obtain ⟨l4, hl4⟩ : ∃ l4 : Nat, (m5.getD k.toNat []).length = l4 := ⟨_, rfl⟩; rw [hl4] at h6 HSL HO5; have HL4 := aK hl4; clear hl4 h7))
      have H6 := aK h6
      gi_loopw [60] (fun v60 wq => ∃ (yv : Int) (mq : List (List Bool)), v60 = .int .i64 yv ∧ Aside0 (0 ≤ yv ∧ yv ≤ l4) ∧ Aside0 (RS n w w15 w4 go m0.length cm wq mq) ∧ Aside0 ((mq.getD i.toNat []).length = n.toNat) ∧ Aside0 (wq.cell? ⟨go, k.toNat, none⟩ = some (.slice A4 l4 c4)) ∧ Aside0 ((mq.getD k.toNat []).length = l4) ∧ Aside0 (reach.or i k (l4 - yv.toNat) yv mq = reach.one i k mr))
       (fun v60 _ => ((l4 : Int) - intOf v60).toNat)
      case atStart => exact ⟨0, m5, rfl, ⟨by omega⟩, HP5, HRL5, H6, HL4, HO5⟩
      case round =>
       clear h6 hz48 HP5 HRL5 H6 HL4 HO5
       obtain ⟨yv, mq, rfl, HY, HP, HRLq, H6q, HL4q, HOq⟩ := hrel
       have b0y : 0 ≤ yv := HY.out.1
       by_cases hly : yv < (l4 : Int)
       ·have b1y : yv ≤ 9223372036854775806 := by have := HSL.out; have := HN.out.2; omega
        obtain ⟨A', c', hh, hC⟩ := HP.out.head k HK.out.1 (by have := HL.out; have := HK.out; omega)
        rw [HL4q.out] at hh
        have hA := hh.symm.trans H6q.out
        injection hA with hA
        injection hA with hA _ _
        subst hA
        obtain ⟨ad4, e4, hxy⟩ := Kd.at_bool hC yv b0y (by rw [HL4q.out]; exact hly)
        subst e4
        obtain ⟨is, his⟩ : ∃ is : Bool, rdOf false (mq.getD k.toNat []) yv = is := ⟨_, rfl⟩
        rw [his] at hxy
        have HP := aK (HP.out.drew)
        obtain ⟨g2, c2, h1, h2, hfz, hg2, h5⟩ := HP.out.at i yv HI.out.1 (by have := HL.out; have := HI.out; omega) b0y (by rw [HRLq.out]; have := HSL.out; omega)
        obtain ⟨rl2, hrl2⟩ : ∃ rl : Nat, (mq.getD i.toNat []).length = rl := ⟨_, rfl⟩
        rw [hrl2] at h1
        have HRN2 : Aside0 (rl2 = n.toNat) := ⟨hrl2.symm.trans HRLq.out⟩
        have hz48 : wr.drew.cell? ⟨g48, 0, none⟩ = some (.slice (some ⟨go, 0, none⟩) m0.length cm) := (blk_cell (HP.out.c.2 g48 _ _ _ HB48.out (by decide) (by decide)) 0).trans rfl
        have hy0' := eq_true b0y
        have hy1' := eq_true hly
        have hyb := decide_eq_true hly
        have hy2 : (yv < (rl2 : Int)) = True := eq_true (by have := HRN2.out; have := HSL.out; omega)
        have HIS := aK his; have HG2 := aK hg2; have HPUT := aK h5; have HLY := aK hly
        obtain ⟨bb, hbb⟩ : ∃ bb : Bool, rdOf false (mq.getD i.toNat []) yv = bb := ⟨_, rfl⟩
        rw [hbb] at h2; have HBB := aK hbb
        have HC6 := aK (show wr.drew.cell? ⟨go, k.toNat, none⟩ = some (.slice (some ad4) l4 c4) from H6q.out)
        clear hh hC his hrl2 hg2 h5 hly hbb H6q
        have fin : ∀ (wd : World) (v : Bool), v = (bb || is) → Aside0 (wd.cell? ⟨go, k.toNat, none⟩ = some (.slice (some ad4) l4 c4)) → RS n w w15 w4 go m0.length cm (wd.setCell ⟨g2, yv.toNat, none⟩ (.bool v)) (mq.set i.toNat ((mq.getD i.toNat []).set yv.toNat v)) → ∃ (yv' : Int) (mq' : List (List Bool)), yv' = yv + 1 ∧ Aside0 (0 ≤ yv' ∧ yv' ≤ l4) ∧ Aside0 (RS n w w15 w4 go m0.length cm (wd.setCell ⟨g2, yv.toNat, none⟩ (.bool v)) mq') ∧ Aside0 ((mq'.getD i.toNat []).length = n.toNat) ∧ Aside0 ((wd.setCell ⟨g2, yv.toNat, none⟩ (.bool v)).cell? ⟨go, k.toNat, none⟩ = some (.slice (some ad4) l4 c4)) ∧ Aside0 ((mq'.getD k.toNat []).length = l4) ∧ Aside0 (reach.or i k (l4 - yv'.toNat) yv' mq' = reach.one i k mr) := by
         intro wd v hv hcell hRS
         have hil : i.toNat < mq.length := by have := HP.out.lens; have := HI.out; omega
         refine ⟨yv + 1, _, rfl, ⟨by have := HLY.out; omega⟩, ⟨hRS⟩, ⟨?_⟩, ⟨(cell_far (Ne.symm HG2.out) _).trans hcell.out⟩, ⟨?_⟩, ⟨?_⟩⟩
         ·rw [getD_set_self _ _ _ hil, List.length_set]; exact HRLq.out
         ·by_cases e : i.toNat = k.toNat
          ·rw [← e, getD_set_self _ _ _ hil, List.length_set, e]; exact HL4q.out
          ·rw [getD_set_ne _ _ _ _ e]; exact HL4q.out
         ·have h7 := HOq.out
          rw [show l4 - yv.toNat = (l4 - (yv + 1).toNat) + 1 by have := HLY.out; omega] at h7
          rw [reach.or, HBB.out, HIS.out] at h7
          rw [hv]
          exact h7
        have HFIN := aK fin; clear fin
        gi_wp2
        clear hxy
        cases bb with
        | true =>
         refine startIn_ (fun _ => trivial) (by kernel_rfl) (by rintro ⟨_, _, h⟩; exact h) (n := 17) (S := fun w' => w'.cell? ⟨g48, 0, none⟩ = some (.slice (some ⟨go, 0, none⟩) m0.length cm) ∧ w'.cell? ⟨go, i.toNat, none⟩ = some (.slice (some ⟨g2, 0, none⟩) rl2 c2) ∧ w'.cell? ⟨g2, yv.toNat, none⟩ = some (.bool true)) (ds := [16]) #[false, false, false, false, false, false, false, false, false, false, false, false, false, false, false, false, false] (by kernel_rfl) rfl rfl ⟨hz48, h1, h2⟩ (fun hHeld => ?_)
         generalize wr.drew = wd at HP HPUT HC6 h1 h2 hz48 hHeld hfz ⊢
         refine pure_ (i := 1) (N := some 66) (v := ?_) (a' := ?_) #[false, true, false, false, false, false, false, false, false, false, false, false, false, false, false, false, false] rfl rfl (by kernel_rfl) (fun _ _ _ h => h) (Or.inl ⟨by rfl, ?_⟩) ?_ ?_
         rotate_left; ·intro w'; go_simp; with_reducible rfl
         rotate_left; ·simp only [Act.put, sA_, sZ_, sS_, i64_w, i32_w]; rfl
         refine pure_ (i := 4) (N := some 69) (v := ?_) (a' := ?_) #[false, true, false, false, true, false, false, false, false, false, false, false, false, false, false, false, false] rfl rfl (by kernel_rfl) (fun _ _ _ h => h) (Or.inl ⟨by rfl, ?_⟩) ?_ ?_
         rotate_left; ·intro w'; go_simp; with_reducible rfl
         rotate_left; ·simp only [Act.put, sA_, sZ_, sS_, i64_w, i32_w]; rfl
         refine pure_ (i := 6) (N := some 71) (v := ?_) (a' := ?_) #[false, true, false, false, true, false, true, false, false, false, false, false, false, false, false, false, false] rfl rfl (by kernel_rfl) (fun _ _ _ h => h) (Or.inl ⟨by rfl, ?_⟩) ?_ ?_
         rotate_left; ·intro w'; go_simp; with_reducible rfl
         rotate_left; ·simp only [Act.put, sA_, sZ_, sS_, i64_w, i32_w]; rfl
         refine pure_ (i := 9) (N := some 74) (v := ?_) (a' := ?_) #[false, true, false, false, true, false, true, false, false, true, false, false, false, false, false, false, false] rfl rfl (by kernel_rfl) (fun _ _ _ h => h) (Or.inl ⟨by rfl, ?_⟩) ?_ ?_
         rotate_left; ·intro w'; go_simp; with_reducible rfl
         rotate_left; ·simp only [Act.put, sA_, sZ_, sS_, i64_w, i32_w]; rfl
         refine take_ (i := 0) (N := some 65) (v := ?_) (a' := ?_) #[true, true, false, false, true, false, true, false, false, true, false, false, false, false, false, false, false] rfl rfl (by kernel_rfl) (fun _ _ _ h => h) (Or.inl ⟨by rfl, ?_⟩) hHeld ?_ ?_
         rotate_left
         ·rintro w' ⟨s0, s1, s2⟩; go_simp; with_reducible rfl
         rotate_left; ·simp only [Act.put, sA_, sZ_, sS_, i64_w, i32_w]; rfl
         refine pure_ (i := 2) (N := some 67) (v := ?_) (a' := ?_) #[true, true, true, false, true, false, true, false, false, true, false, false, false, false, false, false, false] rfl rfl (by kernel_rfl) (fun _ _ _ h => h) (Or.inl ⟨by rfl, ?_⟩) ?_ ?_
         rotate_left; ·intro w'; go_simp; with_reducible rfl
         rotate_left; ·simp only [Act.put, sA_, sZ_, sS_, i64_w, i32_w]; rfl
         refine take_ (i := 3) (N := some 68) (v := ?_) (a' := ?_) #[true, true, true, true, true, false, true, false, false, true, false, false, false, false, false, false, false] rfl rfl (by kernel_rfl) (fun _ _ _ h => h) (Or.inl ⟨by rfl, ?_⟩) hHeld ?_ ?_
         rotate_left
         ·rintro w' ⟨s0, s1, s2⟩; go_simp; with_reducible rfl
         rotate_left; ·simp only [Act.put, sA_, sZ_, sS_, i64_w, i32_w]; rfl
         refine take_ (i := 5) (N := some 70) (v := ?_) (a' := ?_) #[true, true, true, true, true, true, true, false, false, true, false, false, false, false, false, false, false] rfl rfl (by kernel_rfl) (fun _ _ _ h => h) (Or.inl ⟨by rfl, ?_⟩) hHeld ?_ ?_
         rotate_left
         ·rintro w' ⟨s0, s1, s2⟩; go_simp; with_reducible rfl
         rotate_left; ·simp only [Act.put, sA_, sZ_, sS_, i64_w, i32_w]; rfl
         refine pure_ (i := 7) (N := some 72) (v := ?_) (a' := ?_) #[true, true, true, true, true, true, true, true, false, true, false, false, false, false, false, false, false] rfl rfl (by kernel_rfl) (fun _ _ _ h => h) (Or.inl ⟨by rfl, ?_⟩) ?_ ?_
         rotate_left; ·intro w'; go_simp; with_reducible rfl
         rotate_left; ·simp only [Act.put, sA_, sZ_, sS_, i64_w, i32_w]; rfl
         refine take_ (i := 8) (N := some 73) (v := ?_) (a' := ?_) #[true, true, true, true, true, true, true, true, true, true, false, false, false, false, false, false, false] rfl rfl (by kernel_rfl) (fun _ _ _ h => h) (Or.inl ⟨by rfl, ?_⟩) hHeld ?_ ?_
         rotate_left
         ·rintro w' ⟨s0, s1, s2⟩; go_simp; with_reducible rfl
         rotate_left; ·simp only [Act.put, sA_, sZ_, sS_, i64_w, i32_w]; rfl
         refine pure_ (i := 10) (N := some 75) (v := ?_) (a' := ?_) #[true, true, true, true, true, true, true, true, true, true, true, false, false, false, false, false, false] rfl rfl (by kernel_rfl) (fun _ _ _ h => h) (Or.inl ⟨by rfl, ?_⟩) ?_ ?_
         rotate_left; ·intro w'; go_simp; with_reducible rfl
         rotate_left; ·simp only [Act.put, sA_, sZ_, sS_, i64_w, i32_w]; rfl
         refine take_ (i := 11) (N := some 76) (v := ?_) (a' := ?_) #[true, true, true, true, true, true, true, true, true, true, true, true, false, false, false, false, false] rfl rfl (by kernel_rfl) (fun _ _ _ h => h) (Or.inl ⟨by rfl, ?_⟩) hHeld ?_ ?_
         rotate_left
         ·rintro w' ⟨s0, s1, s2⟩; go_simp; with_reducible rfl
         rotate_left; ·simp only [Act.put, sA_, sZ_, sS_, i64_w, i32_w]; rfl
         refine pure_ (i := 12) (N := some 77) (v := ?_) (a' := ?_) #[true, true, true, true, true, true, true, true, true, true, true, true, true, false, false, false, false] rfl rfl (by kernel_rfl) (fun _ _ _ h => h) (Or.inl ⟨by rfl, ?_⟩) ?_ ?_
         rotate_left; ·intro w'; go_simp; with_reducible rfl
         rotate_left; ·simp only [Act.put, sA_, sZ_, sS_, i64_w, i32_w]; rfl
         refine pure_ (i := 13) (N := some 78) (v := undef) (a' := ?_) #[true, true, true, true, true, true, true, true, true, true, true, true, true, true, false, false, false] rfl rfl (by kernel_rfl) (fun _ _ _ h => h) (Or.inr ⟨by rfl, rfl⟩) ?_ ?_
         rotate_left; ·simp only [Act.put, sA_, sZ_, sS_, i64_w, i32_w]; rfl
         refine pure_ (i := 14) (N := some 79) (v := ?_) (a' := ?_) #[true, true, true, true, true, true, true, true, true, true, true, true, true, true, true, false, false] rfl rfl (by kernel_rfl) (fun _ _ _ h => h) (Or.inl ⟨by rfl, ?_⟩) ?_ ?_
         rotate_left; ·intro w'; go_simp; with_reducible rfl
         rotate_left; ·simp only [Act.put, sA_, sZ_, sS_, i64_w, i32_w]; rfl
         refine pure_ (i := 15) (N := some 80) (v := ?_) (a' := ?_) #[true, true, true, true, true, true, true, true, true, true, true, true, true, true, true, true, false] rfl rfl (by kernel_rfl) (fun _ _ _ h => h) (Or.inl ⟨by rfl, ?_⟩) ?_ ?_
         rotate_left; ·intro w'; go_simp; with_reducible rfl
         rotate_left; ·simp only [Act.put, sA_, sZ_, sS_, i64_w, i32_w]; rfl
         refine last_ (i := 16) (N := none) #[true, true, true, true, true, true, true, true, true, true, true, true, true, true, true, true, true] rfl rfl (by kernel_rfl) (by decide) (fun K hK => ?_)
         refine skip_ (w1 := wd.setCell ⟨g2, yv.toNat, none⟩ (.bool true)) (by rfl) rfl ?_ ?_
         ·go_simp
          try rfl
         refine hK.out _ _ ?_
         clear hK K
         refine done_ (by kernel_rfl) ?_
         have hf := HFIN.out wd true (by simp) HC6 (HPUT.out true)
         generalize wd.setCell ⟨g2, yv.toNat, none⟩ (.bool true) = w6 at hf ⊢
         obtain ⟨yv', mq', hyv, hr⟩ := hf
         have HR6 := aK hr; have HYV := aK hyv; clear hr hyv hHeld hfz HFIN HPUT HP HC6 hz48 h1 h2
         gi_wp2
         go_roundw
         case rel => exact ⟨yv', mq', by rw [HYV.out], HR6.out⟩
         case measure => simp [intOf]; have := HLY.out; omega
        | false =>
         refine startIn_ (fun _ => trivial) (by kernel_rfl) (by rintro ⟨_, _, h⟩; exact h) (n := 17) (S := fun w' => w'.cell? ⟨g48, 0, none⟩ = some (.slice (some ⟨go, 0, none⟩) m0.length cm) ∧ w'.cell? ⟨go, i.toNat, none⟩ = some (.slice (some ⟨g2, 0, none⟩) rl2 c2) ∧ w'.cell? ⟨g2, yv.toNat, none⟩ = some (.bool false)) (ds := [16]) #[false, false, false, false, false, false, false, false, false, false, false, false, false, false, false, false, false] (by kernel_rfl) rfl rfl ⟨hz48, h1, h2⟩ (fun hHeld => ?_)
         generalize wr.drew = wd at HP HPUT HC6 h1 h2 hz48 hHeld hfz ⊢
         refine pure_ (i := 1) (N := some 66) (v := ?_) (a' := ?_) #[false, true, false, false, false, false, false, false, false, false, false, false, false, false, false, false, false] rfl rfl (by kernel_rfl) (fun _ _ _ h => h) (Or.inl ⟨by rfl, ?_⟩) ?_ ?_
         rotate_left; ·intro w'; go_simp; with_reducible rfl
         rotate_left; ·simp only [Act.put, sA_, sZ_, sS_, i64_w, i32_w]; rfl
         refine pure_ (i := 4) (N := some 69) (v := ?_) (a' := ?_) #[false, true, false, false, true, false, false, false, false, false, false, false, false, false, false, false, false] rfl rfl (by kernel_rfl) (fun _ _ _ h => h) (Or.inl ⟨by rfl, ?_⟩) ?_ ?_
         rotate_left; ·intro w'; go_simp; with_reducible rfl
         rotate_left; ·simp only [Act.put, sA_, sZ_, sS_, i64_w, i32_w]; rfl
         refine pure_ (i := 6) (N := some 71) (v := ?_) (a' := ?_) #[false, true, false, false, true, false, true, false, false, false, false, false, false, false, false, false, false] rfl rfl (by kernel_rfl) (fun _ _ _ h => h) (Or.inl ⟨by rfl, ?_⟩) ?_ ?_
         rotate_left; ·intro w'; go_simp; with_reducible rfl
         rotate_left; ·simp only [Act.put, sA_, sZ_, sS_, i64_w, i32_w]; rfl
         refine pure_ (i := 9) (N := some 74) (v := ?_) (a' := ?_) #[false, true, false, false, true, false, true, false, false, true, false, false, false, false, false, false, false] rfl rfl (by kernel_rfl) (fun _ _ _ h => h) (Or.inl ⟨by rfl, ?_⟩) ?_ ?_
         rotate_left; ·intro w'; go_simp; with_reducible rfl
         rotate_left; ·simp only [Act.put, sA_, sZ_, sS_, i64_w, i32_w]; rfl
         refine take_ (i := 0) (N := some 65) (v := ?_) (a' := ?_) #[true, true, false, false, true, false, true, false, false, true, false, false, false, false, false, false, false] rfl rfl (by kernel_rfl) (fun _ _ _ h => h) (Or.inl ⟨by rfl, ?_⟩) hHeld ?_ ?_
         rotate_left
         ·rintro w' ⟨s0, s1, s2⟩; go_simp; with_reducible rfl
         rotate_left; ·simp only [Act.put, sA_, sZ_, sS_, i64_w, i32_w]; rfl
         refine pure_ (i := 2) (N := some 67) (v := ?_) (a' := ?_) #[true, true, true, false, true, false, true, false, false, true, false, false, false, false, false, false, false] rfl rfl (by kernel_rfl) (fun _ _ _ h => h) (Or.inl ⟨by rfl, ?_⟩) ?_ ?_
         rotate_left; ·intro w'; go_simp; with_reducible rfl
         rotate_left; ·simp only [Act.put, sA_, sZ_, sS_, i64_w, i32_w]; rfl
         refine take_ (i := 3) (N := some 68) (v := ?_) (a' := ?_) #[true, true, true, true, true, false, true, false, false, true, false, false, false, false, false, false, false] rfl rfl (by kernel_rfl) (fun _ _ _ h => h) (Or.inl ⟨by rfl, ?_⟩) hHeld ?_ ?_
         rotate_left
         ·rintro w' ⟨s0, s1, s2⟩; go_simp; with_reducible rfl
         rotate_left; ·simp only [Act.put, sA_, sZ_, sS_, i64_w, i32_w]; rfl
         refine take_ (i := 5) (N := some 70) (v := ?_) (a' := ?_) #[true, true, true, true, true, true, true, false, false, true, false, false, false, false, false, false, false] rfl rfl (by kernel_rfl) (fun _ _ _ h => h) (Or.inl ⟨by rfl, ?_⟩) hHeld ?_ ?_
         rotate_left
         ·rintro w' ⟨s0, s1, s2⟩; go_simp; with_reducible rfl
         rotate_left; ·simp only [Act.put, sA_, sZ_, sS_, i64_w, i32_w]; rfl
         refine pure_ (i := 7) (N := some 72) (v := ?_) (a' := ?_) #[true, true, true, true, true, true, true, true, false, true, false, false, false, false, false, false, false] rfl rfl (by kernel_rfl) (fun _ _ _ h => h) (Or.inl ⟨by rfl, ?_⟩) ?_ ?_
         rotate_left; ·intro w'; go_simp; with_reducible rfl
         rotate_left; ·simp only [Act.put, sA_, sZ_, sS_, i64_w, i32_w]; rfl
         refine take_ (i := 8) (N := some 73) (v := ?_) (a' := ?_) #[true, true, true, true, true, true, true, true, true, true, false, false, false, false, false, false, false] rfl rfl (by kernel_rfl) (fun _ _ _ h => h) (Or.inl ⟨by rfl, ?_⟩) hHeld ?_ ?_
         rotate_left
         ·rintro w' ⟨s0, s1, s2⟩; go_simp; with_reducible rfl
         rotate_left; ·simp only [Act.put, sA_, sZ_, sS_, i64_w, i32_w]; rfl
         refine pure_ (i := 10) (N := some 75) (v := ?_) (a' := ?_) #[true, true, true, true, true, true, true, true, true, true, true, false, false, false, false, false, false] rfl rfl (by kernel_rfl) (fun _ _ _ h => h) (Or.inl ⟨by rfl, ?_⟩) ?_ ?_
         rotate_left; ·intro w'; go_simp; with_reducible rfl
         rotate_left; ·simp only [Act.put, sA_, sZ_, sS_, i64_w, i32_w]; rfl
         refine take_ (i := 11) (N := some 76) (v := ?_) (a' := ?_) #[true, true, true, true, true, true, true, true, true, true, true, true, false, false, false, false, false] rfl rfl (by kernel_rfl) (fun _ _ _ h => h) (Or.inl ⟨by rfl, ?_⟩) hHeld ?_ ?_
         rotate_left
         ·rintro w' ⟨s0, s1, s2⟩; go_simp; with_reducible rfl
         rotate_left; ·simp only [Act.put, sA_, sZ_, sS_, i64_w, i32_w]; rfl
         refine pure_ (i := 12) (N := some 77) (v := ?_) (a' := ?_) #[true, true, true, true, true, true, true, true, true, true, true, true, true, false, false, false, false] rfl rfl (by kernel_rfl) (fun _ _ _ h => h) (Or.inl ⟨by rfl, ?_⟩) ?_ ?_
         rotate_left; ·intro w'; go_simp; with_reducible rfl
         rotate_left; ·simp only [Act.put, sA_, sZ_, sS_, i64_w, i32_w]; rfl
         refine pure_ (i := 13) (N := some 78) (v := ?_) (a' := ?_) #[true, true, true, true, true, true, true, true, true, true, true, true, true, true, false, false, false] rfl rfl (by kernel_rfl) (fun _ _ _ h => h) (Or.inl ⟨by rfl, ?_⟩) ?_ ?_
         rotate_left; ·intro w'; go_simp; with_reducible rfl
         rotate_left; ·simp only [Act.put, sA_, sZ_, sS_, i64_w, i32_w]; rfl
         refine pure_ (i := 14) (N := some 79) (v := ?_) (a' := ?_) #[true, true, true, true, true, true, true, true, true, true, true, true, true, true, true, false, false] rfl rfl (by kernel_rfl) (fun _ _ _ h => h) (Or.inl ⟨by rfl, ?_⟩) ?_ ?_
         rotate_left; ·intro w'; go_simp; with_reducible rfl
         rotate_left; ·simp only [Act.put, sA_, sZ_, sS_, i64_w, i32_w]; rfl
         refine pure_ (i := 15) (N := some 80) (v := ?_) (a' := ?_) #[true, true, true, true, true, true, true, true, true, true, true, true, true, true, true, true, false] rfl rfl (by kernel_rfl) (fun _ _ _ h => h) (Or.inl ⟨by rfl, ?_⟩) ?_ ?_
         rotate_left; ·intro w'; go_simp; with_reducible rfl
         rotate_left; ·simp only [Act.put, sA_, sZ_, sS_, i64_w, i32_w]; rfl
         refine last_ (i := 16) (N := none) #[true, true, true, true, true, true, true, true, true, true, true, true, true, true, true, true, true] rfl rfl (by kernel_rfl) (by decide) (fun K hK => ?_)
         refine skip_ (w1 := wd.setCell ⟨g2, yv.toNat, none⟩ (.bool is)) (by rfl) rfl ?_ ?_
         ·go_simp
          try rfl
         refine hK.out _ _ ?_
         clear hK K
         refine done_ (by kernel_rfl) ?_
         have hf := HFIN.out wd is (by simp) HC6 (HPUT.out is)
         generalize wd.setCell ⟨g2, yv.toNat, none⟩ (.bool is) = w6 at hf ⊢
         obtain ⟨yv', mq', hyv, hr⟩ := hf
         have HR6 := aK hr; have HYV := aK hyv; clear hr hyv hHeld hfz HFIN HPUT HP HC6 hz48 h1 h2
         gi_wp2
         go_roundw
         case rel => exact ⟨yv', mq', by rw [HYV.out], HR6.out⟩
         case measure => simp [intOf]; have := HLY.out; omega
       ·obtain rfl : yv = l4 := by have := HY.out; omega
        have HONE : Aside0 (mq = reach.one i k mr) := ⟨by have h7 := HOq.out; rw [show l4 - (l4 : Int).toNat = 0 by omega] at h7; exact h7⟩
        clear hly
        gi_wp2
        go_roundw
        case rel => exact ⟨xv + 1, mq, rfl, ⟨by omega⟩, HP, HRLq, ⟨by have h7 := HMFr.out; rw [HDR.out] at h7; rw [HONE.out]; exact h7⟩⟩
        case measure => simp [intOf]; omega
     ·obtain rfl : xv = ks.length := by have := HX.out; omega
      have HEND : Aside0 (mr = mf) := ⟨by have h7 := HMFr.out; rw [show (ks.length : Int).toNat = ks.length by omega, List.drop_length] at h7; exact h7⟩
      have HSTEP : Aside0 (mf = reach.step n bh m i) := ⟨by have h7 := HMF.out; rw [show (0 : Int).toNat = 0 from rfl, List.drop_zero, HKS.out, HM1.out] at h7; exact h7.symm⟩
      have HFIN := aK (show KeepsFrom w15.heap.size W wr ∧ KC W wr ∧ ReachI n bh o m0 (some ⟨go, 0, none⟩) cm w w15 (pre ++ [x]) wr from ⟨(O4.out.trans HRSr.out.o).from _, K4.out.trans HRSr.out.c0, mr, HRSr.out.s, HRSr.out.sh, fun h => by rw [HEND.out, HSTEP.out]; exact ReachI.next HAT.out HM.out h, HRSr.out.c, HRSr.out.b⟩)
      clear hlt
      gi_wp2
      exact HFIN.out
  ·rw [if_neg hc] at H; cases H
 ·rw [if_neg z] at H
  have zb : (e != 0) = true := bne_iff_ne.mpr z
  simp only [Option.some.injEq, Prod.mk.injEq] at H
  obtain ⟨rfl, rfl⟩ := H
  clear z
  go_wp2_with (first | ((with_reducible refine gate_dst (N := 2) rfl ?_); go_must (refine box_event ?hg (N := 2) ?hd (cs := #[.int .i64 n]) (t := 3) ?hr ?_; (case hd => rfl); (case hg => rfl); (case hr => first | (go_simp; done) | (go_simp; rfl)); intro g hg w10 hbox hb; have n1_ := aK (bT_ HB.out hb); have BK := aK hbox; have hzz : w10.cell? ⟨g, 0, none⟩ = some (.int .i64 n) := (blk_cell hbox 0).trans rfl; clear HB hb hbox hg; have HB := n1_; clear n1_)) | (go_at_call 25; go_must ((with_reducible refine (precedence_Order.calls k n _ _ l _ _ _ ?s1 ?s2 HO.out).mono ?_); (case s1 => exact Kd.C_below HR1.out HB.out); (case s2 => exact HC1.out); rintro e w8 ⟨v0, rfl, hv, hb⟩; have n_ := aK (bT_ HB.out hb); have HV := aK hv; clear HB hb hv; have HB := n_; clear n_)))
  refine ⟨.tuple #[.slice none 0 0, .int .i64 e], ?_, _, rfl, Kd.R_nil _ _ _ _ _, HB.out⟩
  simp [results, Try.f34, go_sem]
end Go.Proofs.Ytbbkclcfmcjlgaa.P
