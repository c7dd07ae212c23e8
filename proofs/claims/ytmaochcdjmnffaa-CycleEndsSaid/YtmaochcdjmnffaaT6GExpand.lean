/- The contract of swarf/cycle.Expand (function 15), by hand: it makes a closure, which the printing program does not take. -/
import Derived.Test.YtmaochcdjmnffaaT6Px4
import Derived.Test.YtmaochcdjmnffaaT6Px6
import Derived.Test.YtmaochcdjmnffaaT6GTo
namespace Go.Proofs.Ytmaochcdjmnffaa.P
open Go.RowKit Go.Proofs.YtmaochcdjmnffaaW.PrintWords Go.Proofs.YtmaochcdjmnffaaW.PrintLast Go.Proofs.YtmaochcdjmnffaaW.PrintMore
set_option linter.unusedVariables false
set_option linter.unusedSimpArgs false

/-! ### What it computes -/
/-- A position and the moves so far. -/
abbrev St := S36 × List S45
def same36 (q p : S36) : Bool := q.f0 == p.f0 && (q.f1 == p.f1 && (q.f2 == p.f2))
def stTo (s : St) (kind : Int) (q : S36) (rate : Int) : St := if same36 q s.1 = true then s else (q, s.2 ++ [⟨kind, q, ⟨0, 0⟩, rate⟩])
def stDrill (r rate : Int) (g : S43) (s : St) (z : Int) : St := stTo (stTo s 2 ⟨g.f0, g.f1, z⟩ rate) 1 ⟨g.f0, g.f1, r⟩ 0
def stLow (r : Int) (s : St) : St := if s.1.f2 < r then stTo s 1 ⟨s.1.f0, s.1.f1, r⟩ 0 else s
def stTop (r : Int) (s : St) (g : S43) : St := stTo (stTo (stLow r s) 1 ⟨g.f0, g.f1, (stLow r s).1.f2⟩ 0) 1 ⟨g.f0, g.f1, r⟩ 0
def stHigh (ini : Int) (high : Bool) (g : S43) (s : St) : St := if high = true then stTo s 1 ⟨g.f0, g.f1, ini⟩ 0 else s
def stOne (r rate ini : Int) (high : Bool) (d : List Int) (s : St) (g : S43) : St := stHigh ini high g (d.foldl (stDrill r rate g) (stTop r s g))
def stAll (r rate ini : Int) (high : Bool) (d : List Int) : List S43 → St → List S45 × Int
  | [], s => (s.2, 0)
  | g :: gs, s => if (stOne r rate ini high d s g).2.length > 20000 then ([], 3) else stAll r rate ini high d gs (stOne r rate ini high d s g)
def farB (x : Int) : Bool := decide (10000000 < x) || decide (x < -10000000)
def farP (p : S36) : Bool := farB p.f0 || (farB p.f1 || farB p.f2)
def farG (g : S43) : Bool := farB g.f0 || farB g.f1

def cycle_Expand.f (k : Nat) (a0_0 a0_1 a0_2 a0_3 a0_4 a0_5 : Int) (a0_6 : Bool) (a1_0 a1_1 a1_2 : Int) (l2 : List S43) : Option (List S45 × Int) :=
  (cycle_Depths.f k a0_0 a0_1 a0_2 a0_3 a0_4 a0_5 a0_6).bind fun d =>
    if d.1.length < 10000 then (if d.2 = 0 then (if farP ⟨a1_0, a1_1, a1_2⟩ || l2.any farG then some ([], 11) else some (stAll a0_1 a0_4 a0_5 a0_6 d.1 l2 (⟨a1_0, a1_1, a1_2⟩, []))) else some ([], d.2)) else none
theorem cycle_Expand.mono : ∀ a0 a1 a2 a3 a4 a5 a6 a7 a8 a9 a10 k, LeO (cycle_Expand.f k a0 a1 a2 a3 a4 a5 a6 a7 a8 a9 a10) (cycle_Expand.f (k + 1) a0 a1 a2 a3 a4 a5 a6 a7 a8 a9 a10) := by
  intro a0 a1 a2 a3 a4 a5 a6 a7 a8 a9 a10 k
  unfold cycle_Expand.f
  exact LeO.bind (cycle_Depths.mono _ _ _ _ _ _ _ _) (fun _ => LeO.refl _)

theorem stTo_len (s : St) (kind : Int) (q : S36) (rate : Int) : (stTo s kind q rate).2.length ≤ s.2.length + 1 := by
  unfold stTo; split <;> simp

/-! ### The world around it -/
/-- What is known of the world W between the steps: the boxes X, the variables from and out, the depths, and the call's beginning w. -/
structure EnvC (w W : World) (X : List (Nat × Array Value × TypeId)) (gF gO : Nat) (s : St) (v vd : Value) (d : List Int) : Prop where
  x : ∀ b ∈ X, W.heap[b.1]? = some (.cells b.2.1 b.2.2 (0, 0)) ∧ b.1 ≠ gF ∧ b.1 ≠ gO ∧ b.2.2 ≠ 45
  f : W.heap[gF]? = some (.cells #[.int .i64 s.1.f0, .int .i64 s.1.f1, .int .i64 s.1.f2] 36 (0, 0))
  o : W.heap[gO]? = some (.cells #[v] 38 (0, 0))
  r : Kd.R k45 45 W w.heap.size (fun _ => True) v s.2
  d : Kd.R (Kd.int .i64) 2 W w.heap.size (fun _ => True) vd d
  b : Below w.heap.size w W
  lf : w.heap.size ≤ gF
  lo : w.heap.size ≤ gO
theorem EnvC.step {w W W1 : World} {X : List (Nat × Array Value × TypeId)} {gF gO : Nat} {s : St} {v vd : Value} {d : List Int} (h : EnvC w W X gF gO s v vd d) (hb : Below W.heap.size W W1) : EnvC w W1 X gF gO s v vd d :=
  ⟨fun b hX => ⟨blk_below (h.x b hX).1 hb, (h.x b hX).2⟩, blk_below h.f hb, blk_below h.o hb, Kd.R_below h.r hb, Kd.R_below h.d hb, below_step h.b hb, h.lf, h.lo⟩
theorem EnvC.box {w W W1 : World} {X : List (Nat × Array Value × TypeId)} {gF gO : Nat} {s : St} {v vd : Value} {d : List Int} (h : EnvC w W X gF gO s v vd d) (hb : Below W.heap.size W W1) {g : Nat} {cs : Array Value} {t : TypeId} (hg : g = W.heap.size) (hbox : W1.heap[g]? = some (.cells cs t (0, 0))) (ht : t ≠ 45) : EnvC w W1 ((g, cs, t) :: X) gF gO s v vd d := by
  refine ⟨fun b hX => ?_, blk_below h.f hb, blk_below h.o hb, Kd.R_below h.r hb, Kd.R_below h.d hb, below_step h.b hb, h.lf, h.lo⟩
  rcases List.mem_cons.1 hX with rfl | hX
  · have h1 := blk_lt h.f
    have h2 := blk_lt h.o
    exact ⟨hbox, by show g ≠ gF; omega, by show g ≠ gO; omega, ht⟩
  · exact ⟨blk_below (h.x b hX).1 hb, (h.x b hX).2⟩
/-- A box that is written. -/
theorem EnvC.put {w W : World} {X : List (Nat × Array Value × TypeId)} {gF gO : Nat} {s : St} {v vd : Value} {d : List Int} {g : Nat} {cs : Array Value} {t : TypeId} (h : EnvC w W ((g, cs, t) :: X) gF gO s v vd d) (hX : ∀ b ∈ X, b.1 ≠ g) (ht : t ≠ 2) (hw : w.heap.size ≤ g) (i : Nat) (u : Value) (cs' : Array Value) (hc : cs.setIfInBounds i u = cs') : EnvC w (W.setCell ⟨g, i, none⟩ u) ((g, cs', t) :: X) gF gO s v vd d := by
  obtain ⟨h1, h2, h3, h4⟩ := h.x _ List.mem_cons_self
  refine ⟨fun b hb => ?_, ?_, ?_, ?_, ?_, ?_, h.lf, h.lo⟩
  · rcases List.mem_cons.1 hb with rfl | hb
    · exact ⟨blk_put h1 i u hc, h2, h3, h4⟩
    · exact ⟨(Below.heap_setCell W _ u b.1 (hX b hb)).trans (h.x b (List.mem_cons_of_mem _ hb)).1, (h.x b (List.mem_cons_of_mem _ hb)).2⟩
  · exact (Below.heap_setCell W _ u gF (Ne.symm h2)).trans h.f
  · exact (Below.heap_setCell W _ u gO (Ne.symm h3)).trans h.o
  · exact Kd.R_set h.r h1 (by intro q hq; simp [k45, Kd.iso, Kd.pair, Kd.int, Kd.scalar, k36, k43] at hq; rw [hq]; exact Ne.symm h4) i u
  · exact Kd.R_set h.d h1 (by intro q hq; simp [Kd.int, Kd.scalar] at hq; rw [hq]; exact Ne.symm ht) i u
  · exact below_set h.b hw
theorem R_kept {α : Type} {d : Kd α} {e : Nat} {w w1 : World} {base : Nat} {ok : Nat → Prop} {v : Value} {xs : List α} {S : Nat → Prop} (h : d.R e w base ok v xs) (hk : Kept w w1 S)
    (hS : ∀ k, S k → ∀ cells t, w.heap[k]? = some (.cells cells t (0, 0)) → ∀ q, q ∈ e :: d.E → q ≠ t) : d.R e w1 base ok v xs :=
  Kd.R_mono (Kd.R_step (Kd.R_bound h) (fun k ho hlt => by
    obtain ⟨_, _, _, q, hq, cells, hc⟩ := ho
    exact hk.2 k hlt (fun hs => hS k hs cells q hc q hq rfl))) (fun k hk => hk.1)
theorem EnvC.to {w W : World} {X : List (Nat × Array Value × TypeId)} {gF gO : Nat} {s : St} {v vd : Value} {d : List Int} (h : EnvC w W X gF gO s v vd d) (kind x y z rate : Int) (hl : s.2.length < 100000) :
    Calls Try.prog 28 #[.int .i64 kind, .agg #[.int .i64 x, .int .i64 y, .int .i64 z], .int .i64 rate, .pointer (some ⟨gF, 0, none⟩), .pointer (some ⟨gO, 0, none⟩)] W
      fun e W' => e = .returned (.tuple #[]) ∧ ∃ v', EnvC w W' X gF gO (stTo s kind ⟨x, y, z⟩ rate) v' vd d := by
  cases he : (x == s.1.f0 && (y == s.1.f1 && (z == s.1.f2))) with
  | true =>
    refine (to_same kind x y z rate s.1.f0 s.1.f1 s.1.f2 gF gO W he h.f).mono ?_
    rintro e W' ⟨rfl, hb⟩
    have hs : stTo s kind ⟨x, y, z⟩ rate = s := by unfold stTo same36; rw [if_pos he]
    rw [hs]
    exact ⟨rfl, v, h.step hb⟩
  | false =>
    refine (to_new kind x y z rate s.1.f0 s.1.f1 s.1.f2 gF gO v s.2 w W he h.f h.o h.r h.b h.lf h.lo hl).mono ?_
    rintro e W' ⟨rfl, v', hF, hO, hR, hB, hK⟩
    have hs : stTo s kind ⟨x, y, z⟩ rate = (⟨x, y, z⟩, s.2 ++ [⟨kind, ⟨x, y, z⟩, ⟨0, 0⟩, rate⟩]) := by unfold stTo same36; rw [if_neg (by simp [he])]
    rw [hs]
    refine ⟨rfl, v', fun b hb => ⟨?_, (h.x b hb).2⟩, hF, hO, hR, R_kept h.d hK ?_, hB, h.lf, h.lo⟩
    · obtain ⟨h1, h2, h3, h4⟩ := h.x b hb
      refine (hK.2 b.1 (blk_lt h1) ?_).trans h1
      rintro (e | e | e)
      · exact h2 e
      · exact h3 e
      · exact Kd.R_ne h.r h1 (Ne.symm h4) e
    · rintro k (rfl | rfl | e) cells t hc q hq
      · simp [Kd.int, Kd.scalar] at hq
        rw [h.f] at hc
        injection hc with hc
        injection hc with _ hc
        rw [hq, ← hc]; decide
      · simp [Kd.int, Kd.scalar] at hq
        rw [h.o] at hc
        injection hc with hc
        injection hc with _ hc
        rw [hq, ← hc]; decide
      · simp [Kd.int, Kd.scalar] at hq
        rw [hq]
        rintro rfl
        exact Kd.R_ne h.r hc (by decide) e
theorem far_yes (a : Int) (w : World) (h : farB a = true) : Calls Try.prog 26 #[.int .i64 a] w fun e w' => e = .returned (.bool true) ∧ w = w' := by
  by_cases h1 : a > 10000000
  · have h1b : decide (10000000 < a) = true := decide_eq_true h1
    clear h
    go_enter Try.func26, Try.ntmps26
    go_wp2
    go_ret
    exact ⟨rfl, rfl⟩
  · have h2 : decide (a < -10000000) = true := by simp only [farB, Bool.or_eq_true, decide_eq_true_eq] at h ⊢; omega
    have h1b : decide (10000000 < a) = false := decide_eq_false h1
    clear h
    go_enter Try.func26, Try.ntmps26
    go_wp2
    go_ret
    exact ⟨rfl, rfl⟩
theorem far_no (a : Int) (w : World) (h : farB a = false) : Calls Try.prog 26 #[.int .i64 a] w fun e w' => e = .returned (.bool false) ∧ w = w' := by
  have h2 : decide (a < -10000000) = false := by simp only [farB, Bool.or_eq_false_iff, decide_eq_false_iff_not] at h ⊢; omega
  have h1b : decide (10000000 < a) = false := by simp only [farB, Bool.or_eq_false_iff, decide_eq_false_iff_not] at h ⊢; omega
  clear h
  go_enter Try.func26, Try.ntmps26
  go_wp2
  go_ret
  exact ⟨rfl, rfl⟩

theorem blk_ne {W : World} {g g' t t' : Nat} {cs cs' : Array Value} (h : W.heap[g]? = some (.cells cs t (0, 0))) (h' : W.heap[g']? = some (.cells cs' t' (0, 0))) (ht : t ≠ t') : g ≠ g' := by
  rintro rfl
  rw [h] at h'
  injection h' with h'
  injection h' with _ h'
  exact ht h'
/-- What is known before the closure is made. -/
structure EnvA (w W : World) (gC gF : Nat) (cc : Array Value) (p : S36) (vd : Value) (d : List Int) : Prop where
  c : W.heap[gC]? = some (.cells cc 29 (0, 0))
  f : W.heap[gF]? = some (.cells #[.int .i64 p.f0, .int .i64 p.f1, .int .i64 p.f2] 36 (0, 0))
  d : Kd.R (Kd.int .i64) 2 W w.heap.size (fun _ => True) vd d
  b : Below w.heap.size w W
  lf : w.heap.size ≤ gF
  lc : w.heap.size ≤ gC
theorem EnvA.step {w W W1 : World} {gC gF : Nat} {cc : Array Value} {p : S36} {vd : Value} {d : List Int} (h : EnvA w W gC gF cc p vd d) (hb : Below W.heap.size W W1) : EnvA w W1 gC gF cc p vd d :=
  ⟨blk_below h.c hb, blk_below h.f hb, Kd.R_below h.d hb, below_step h.b hb, h.lf, h.lc⟩

theorem EnvA.set {w W : World} {gC gF : Nat} {cc : Array Value} {p : S36} {vd : Value} {d : List Int} (h : EnvA w W gC gF cc p vd d) {g t : Nat} {cs : Array Value} (hw : w.heap.size ≤ g) (h1 : gC ≠ g) (h2 : gF ≠ g)
    (hg : W.heap[g]? = some (.cells cs t (0, 0))) (ht : t ≠ 2) (i : Nat) (u : Value) : EnvA w (W.setCell ⟨g, i, none⟩ u) gC gF cc p vd d :=
  ⟨(Below.heap_setCell W _ u gC h1).trans h.c, (Below.heap_setCell W _ u gF h2).trans h.f, Kd.R_set h.d hg (by intro q hq; simp [Kd.int, Kd.scalar] at hq; rw [hq]; exact Ne.symm ht) i u, below_set h.b hw, h.lf, h.lc⟩

theorem EnvC.drop2 {w W : World} {X : List (Nat × Array Value × TypeId)} {gF gO : Nat} {s : St} {v vd : Value} {d : List Int} {q q' : Nat × Array Value × TypeId} (h : EnvC w W (q :: q' :: X) gF gO s v vd d) : EnvC w W X gF gO s v vd d :=
  ⟨fun b hb => h.x b (.tail _ (.tail _ hb)), h.f, h.o, h.r, h.d, h.b, h.lf, h.lo⟩
theorem EnvA.make {w W W1 : World} {gC gF gO : Nat} {cc : Array Value} {p : S36} {vd : Value} {d : List Int} (h : EnvA w W gC gF cc p vd d) (hb : Below W.heap.size W W1) (hg : gO = W.heap.size) (hbox : W1.heap[gO]? = some (.cells #[.slice none 0 0] 38 (0, 0))) :
    EnvC w W1 [(gC, cc, 29)] gF gO (p, []) (.slice none 0 0) vd d := by
  have h1 := blk_lt h.c
  refine ⟨fun q hq => ?_, blk_below h.f hb, hbox, Kd.R_nil _ _ _ _ _, Kd.R_below h.d hb, below_step h.b hb, h.lf, by have := h.b.size; omega⟩
  rw [List.mem_singleton.1 hq]
  exact ⟨blk_below h.c hb, blk_ne h.c h.f (by decide), by show gC ≠ gO; omega, by show (29 : Nat) ≠ 45; decide⟩

set_option maxHeartbeats 4000000 in
set_option maxRecDepth 100000 in
theorem cycle_Expand.calls (k : Nat) (a0_0 a0_1 a0_2 a0_3 a0_4 a0_5 : Int) (a0_6 : Bool) (a1_0 a1_1 a1_2 : Int) (A2 : Option Addr) (c2 : Nat) (l2 : List S43) (r1 : List S45) (r2 : Int) (w : World)
    (hr2 : Kd.C k43 w A2 l2.length l2) (hc2 : l2.length ≤ c2) (h : cycle_Expand.f k a0_0 a0_1 a0_2 a0_3 a0_4 a0_5 a0_6 a1_0 a1_1 a1_2 l2 = some (r1, r2)) :
    Calls Try.prog 15 #[.agg #[.int .i64 a0_0, .int .i64 a0_1, .int .i64 a0_2, .int .i64 a0_3, .int .i64 a0_4, .int .i64 a0_5, .bool a0_6], .agg #[.int .i64 a1_0, .int .i64 a1_1, .int .i64 a1_2], .slice A2 l2.length c2] w
      fun e w' => ∃ v0_ : Value, e = .returned (.tuple #[v0_, .int .i64 r2]) ∧ Kd.R k45 45 w' w.heap.size (fun _ => True) v0_ r1 ∧ Below w.heap.size w w' := by
  have hu29 := Try.underlying29
  have hu36 := Try.underlying36
  have hu43 := Try.underlying43
  have hmax := Kd.C_max hr2
  have HR2 := Aside0.mk hr2
  obtain ⟨⟨d, t⟩, hD, h1⟩ := Option.bind_eq_some_iff.mp h
  clear h
  have h := h1
  clear h1
  simp only at h
  have HD := Aside0.mk hD
  clear hD hr2
  by_cases hlen : d.length < 10000
  · rw [if_pos hlen] at h
    by_cases ht : t = 0
    · rw [if_pos ht] at h
      have ht0 : (t == 0) = true := beq_iff_eq.mpr ht
      have ht1 : (t != 0) = false := bne_eq_false_iff_eq.mpr ht
      have HH := Aside0.mk h
      clear h ht
      go_enter Try.func15, Try.ntmps15
      go_upto_region 4 with (first | ((with_reducible refine gate_dst (N := 3) rfl ?_); refine box_event ?hg (N := 3) ?hd (cs := #[.int .i64 a0_0, .int .i64 a0_1, .int .i64 a0_2, .int .i64 a0_3, .int .i64 a0_4, .int .i64 a0_5, .bool a0_6]) (t := 29) ?hr ?_; (case hd => rfl); (case hg => rfl); (case hr => first | (go_simp; done) | (go_simp; rfl)); intro gC hg w1 hbox hb; have E1 := Aside0.mk (show w1.heap[gC]? = some (.cells #[.int .i64 a0_0, .int .i64 a0_1, .int .i64 a0_2, .int .i64 a0_3, .int .i64 a0_4, .int .i64 a0_5, .bool a0_6] 29 (0, 0)) ∧ Below w.heap.size w w1 ∧ w.heap.size ≤ gC from ⟨hbox, hb, by omega⟩); clear hg hbox hb; have hx0 : w1.cell? ⟨gC, 0, none⟩ = some (.int .i64 a0_0) := (blk_cell E1.out.1 0).trans rfl; have hx1 : w1.cell? ⟨gC, 1, none⟩ = some (.int .i64 a0_1) := (blk_cell E1.out.1 1).trans rfl; have hx2 : w1.cell? ⟨gC, 2, none⟩ = some (.int .i64 a0_2) := (blk_cell E1.out.1 2).trans rfl; have hx3 : w1.cell? ⟨gC, 3, none⟩ = some (.int .i64 a0_3) := (blk_cell E1.out.1 3).trans rfl; have hx4 : w1.cell? ⟨gC, 4, none⟩ = some (.int .i64 a0_4) := (blk_cell E1.out.1 4).trans rfl; have hx5 : w1.cell? ⟨gC, 5, none⟩ = some (.int .i64 a0_5) := (blk_cell E1.out.1 5).trans rfl; have hx6 : w1.cell? ⟨gC, 6, none⟩ = some (.bool a0_6) := (blk_cell E1.out.1 6).trans rfl) | ((with_reducible refine gate_dst (N := 4) rfl ?_); refine box_event ?hg (N := 4) ?hd (cs := #[.int .i64 a1_0, .int .i64 a1_1, .int .i64 a1_2]) (t := 36) ?hr ?_; (case hd => rfl); (case hg => rfl); (case hr => first | (go_simp; done) | (go_simp; rfl)); intro gF hg w2 hbox hb; have E2 := Aside0.mk (show w2.heap[gC]? = some (.cells #[.int .i64 a0_0, .int .i64 a0_1, .int .i64 a0_2, .int .i64 a0_3, .int .i64 a0_4, .int .i64 a0_5, .bool a0_6] 29 (0, 0)) ∧ w2.heap[gF]? = some (.cells #[.int .i64 a1_0, .int .i64 a1_1, .int .i64 a1_2] 36 (0, 0)) ∧ Below w.heap.size w w2 ∧ w.heap.size ≤ gC ∧ w.heap.size ≤ gF from ⟨blk_below E1.out.1 hb, hbox, below_step E1.out.2.1 hb, E1.out.2.2, by have := E1.out.2.1.size; omega⟩); replace hx0 : w2.cell? ⟨gC, 0, none⟩ = some (.int .i64 a0_0) := (blk_cell E2.out.1 0).trans rfl; replace hx1 : w2.cell? ⟨gC, 1, none⟩ = some (.int .i64 a0_1) := (blk_cell E2.out.1 1).trans rfl; replace hx2 : w2.cell? ⟨gC, 2, none⟩ = some (.int .i64 a0_2) := (blk_cell E2.out.1 2).trans rfl; replace hx3 : w2.cell? ⟨gC, 3, none⟩ = some (.int .i64 a0_3) := (blk_cell E2.out.1 3).trans rfl; replace hx4 : w2.cell? ⟨gC, 4, none⟩ = some (.int .i64 a0_4) := (blk_cell E2.out.1 4).trans rfl; replace hx5 : w2.cell? ⟨gC, 5, none⟩ = some (.int .i64 a0_5) := (blk_cell E2.out.1 5).trans rfl; replace hx6 : w2.cell? ⟨gC, 6, none⟩ = some (.bool a0_6) := (blk_cell E2.out.1 6).trans rfl; clear E1 hg hbox hb) | ((with_reducible refine gate_callee (f := 10) rfl ?_); refine goesL_ (some 22) rfl rfl Try.func10 (by kernel_rfl) rfl #[.agg #[.int .i64 a0_0, .int .i64 a0_1, .int .i64 a0_2, .int .i64 a0_3, .int .i64 a0_4, .int .i64 a0_5, .bool a0_6]] rfl (by (try simp only [List.map_toArray, List.map_cons, List.map_nil]); first | done | rfl) ?_; (with_reducible refine (cycle_Depths.calls k a0_0 a0_1 a0_2 a0_3 a0_4 a0_5 a0_6 d t _ HD.out).mono ?_); rintro e w3 ⟨vd, rfl, hd, hb⟩; refine ⟨_, rfl, ?_⟩; have E3 := Aside0.mk (show EnvA w w3 gC gF _ ⟨a1_0, a1_1, a1_2⟩ vd d from ⟨blk_below E2.out.1 hb, blk_below E2.out.2.1 hb, Kd.R_lower hd E2.out.2.2.1.size, below_step E2.out.2.2.1 hb, E2.out.2.2.2.2, E2.out.2.2.2.1⟩); clear hd hb E2 hx0 hx1 hx2 hx3 hx4 hx5 hx6))
      go_cut [10] (fun v10 wc => v10 = .bool (farP ⟨a1_0, a1_1, a1_2⟩) ∧ Aside0 (EnvA w wc gC gF #[.int .i64 a0_0, .int .i64 a0_1, .int .i64 a0_2, .int .i64 a0_3, .int .i64 a0_4, .int .i64 a0_5, .bool a0_6] ⟨a1_0, a1_1, a1_2⟩ vd d))
      case first =>
        have hf0 : w3.cell? ⟨gF, 0, none⟩ = some (.int .i64 a1_0) := (blk_cell E3.out.f 0).trans rfl
        have hf1 : w3.cell? ⟨gF, 1, none⟩ = some (.int .i64 a1_1) := (blk_cell E3.out.f 1).trans rfl
        have hf2 : w3.cell? ⟨gF, 2, none⟩ = some (.int .i64 a1_2) := (blk_cell E3.out.f 2).trans rfl
        cases q0 : farB a1_0 with
        | true =>
          have Q0 := Aside0.mk q0
          clear q0
          go_wp2_with (first | ((with_reducible refine gate_callee (f := 26) rfl ?_); refine goesL_ (some 30) rfl rfl Try.func26 (by kernel_rfl) rfl #[.int .i64 a1_0] rfl (by (try simp only [List.map_toArray, List.map_cons, List.map_nil]); first | done | rfl) ?_; (with_reducible refine (far_yes a1_0 _ Q0.out).mono ?_); rintro e w' ⟨rfl, rfl⟩; refine ⟨_, rfl, ?_⟩))
          go_meet
          case rel => exact ⟨by simp [farP, Q0.out], E3⟩
        | false =>
          have Q0 := Aside0.mk q0
          clear q0
          cases q1 : farB a1_1 with
          | true =>
            have Q1 := Aside0.mk q1
            clear q1
            go_wp2_with (first | ((with_reducible refine gate_callee (f := 26) rfl ?_); refine goesL_ (some 30) rfl rfl Try.func26 (by kernel_rfl) rfl #[.int .i64 a1_0] rfl (by (try simp only [List.map_toArray, List.map_cons, List.map_nil]); first | done | rfl) ?_; (with_reducible refine (far_no a1_0 _ Q0.out).mono ?_); rintro e w' ⟨rfl, rfl⟩; refine ⟨_, rfl, ?_⟩) | (go_at_call 26; (with_reducible refine (far_yes a1_1 _ Q1.out).mono ?_); rintro e w' ⟨rfl, rfl⟩))
            go_meet
            case rel => exact ⟨by simp [farP, Q0.out, Q1.out], E3⟩
          | false =>
            have Q1 := Aside0.mk q1
            clear q1
            cases q2 : farB a1_2 with
            | true =>
              have Q2 := Aside0.mk q2
              clear q2
              go_wp2_with (first | ((with_reducible refine gate_callee (f := 26) rfl ?_); refine goesL_ (some 30) rfl rfl Try.func26 (by kernel_rfl) rfl #[.int .i64 a1_0] rfl (by (try simp only [List.map_toArray, List.map_cons, List.map_nil]); first | done | rfl) ?_; (with_reducible refine (far_no a1_0 _ Q0.out).mono ?_); rintro e w' ⟨rfl, rfl⟩; refine ⟨_, rfl, ?_⟩) | (go_at_call 26; (with_reducible refine (far_no a1_1 _ Q1.out).mono ?_); rintro e w' ⟨rfl, rfl⟩) | (go_at_call 26; (with_reducible refine (far_yes a1_2 _ Q2.out).mono ?_); rintro e w' ⟨rfl, rfl⟩))
              go_meet
              case rel => exact ⟨by simp [farP, Q0.out, Q1.out, Q2.out], E3⟩
            | false =>
              have Q2 := Aside0.mk q2
              clear q2
              go_wp2_with (first | ((with_reducible refine gate_callee (f := 26) rfl ?_); refine goesL_ (some 30) rfl rfl Try.func26 (by kernel_rfl) rfl #[.int .i64 a1_0] rfl (by (try simp only [List.map_toArray, List.map_cons, List.map_nil]); first | done | rfl) ?_; (with_reducible refine (far_no a1_0 _ Q0.out).mono ?_); rintro e w' ⟨rfl, rfl⟩; refine ⟨_, rfl, ?_⟩) | (go_at_call 26; (with_reducible refine (far_no a1_1 _ Q1.out).mono ?_); rintro e w' ⟨rfl, rfl⟩) | (go_at_call 26; (with_reducible refine (far_no a1_2 _ Q2.out).mono ?_); rintro e w' ⟨rfl, rfl⟩))
              go_meet
              case rel => exact ⟨by simp [farP, Q0.out, Q1.out, Q2.out], E3⟩
      case rest =>
        clear E3
        obtain ⟨rfl, E3⟩ := hcut
        obtain ⟨b0, hb0⟩ : ∃ b0, b0 = farP ⟨a1_0, a1_1, a1_2⟩ := ⟨_, rfl⟩
        rw [← hb0]
        have HB0 := Aside0.mk hb0
        clear hb0
        go_wp2_with fail
        go_loopw [10, 43] (fun v10 v43 W => ∃ (i : Int) (b : Bool), v43 = .int .i64 i ∧ v10 = .bool b ∧ 0 ≤ i ∧ i ≤ l2.length ∧ Aside0 (b = (b0 || (l2.take i.toNat).any farG)) ∧ Aside0 (EnvA w W gC gF #[.int .i64 a0_0, .int .i64 a0_1, .int .i64 a0_2, .int .i64 a0_3, .int .i64 a0_4, .int .i64 a0_5, .bool a0_6] ⟨a1_0, a1_1, a1_2⟩ vd d)) (fun _ v43 _ => l2.length - (intOf v43).toNat)
        case atStart => exact ⟨0, b0, rfl, rfl, by omega, by omega, ⟨by simp⟩, E3⟩
        case round =>
          clear E3
          obtain ⟨i, b, rfl, rfl, hi0, hi1, HBB, E3⟩ := hrel
          by_cases hlt : i < (l2.length : Int)
          · have hltb : decide (i < (l2.length : Int)) = true := decide_eq_true hlt
            have hel : rd_T43 l2 i = l2[i.toNat]'(by omega) := by unfold rd_T43; rw [List.getD_eq_getElem?_getD, List.getElem?_eq_getElem (by omega)]; rfl
            have HEl := Aside0.mk hel
            clear hel
            obtain ⟨ad, e1, hx0, hx1⟩ := at_T43 HR2.out i hi0 hlt
            cases e1
            replace hx0 := (E3.out.b.cell (World.block_lt_of_cell? w _ hx0)).trans hx0
            replace hx1 := (E3.out.b.cell (World.block_lt_of_cell? w _ hx1)).trans hx1
            cases b with
            | true =>
              go_wp2_with (first | ((with_reducible refine gate_dst (N := 12) rfl ?_); refine box_event ?hg (N := 12) ?hd (cs := #[.int .i64 0, .int .i64 0]) (t := 43) ?hr ?_; (case hd => rfl); (case hg => rfl); (case hr => first | (go_simp; done) | (go_simp; rfl)); intro gp hg w4 hbox hb; have EB := Aside0.mk hbox; have E4 := Aside0.mk (E3.out.step hb); have HGp := Aside0.mk (show w.heap.size ≤ gp ∧ gC ≠ gp ∧ gF ≠ gp from ⟨by have := E3.out.b.size; omega, by have := blk_lt E3.out.c; omega, by have := blk_lt E3.out.f; omega⟩); have hp0 : w4.cell? ⟨gp, 0, none⟩ = some (.int .i64 0) := (blk_cell EB.out 0).trans rfl; have hp1 : w4.cell? ⟨gp, 1, none⟩ = some (.int .i64 0) := (blk_cell EB.out 1).trans rfl; have hpf0 := blk_frozen EB.out 0; have hpf1 := blk_frozen EB.out 1; clear hg hbox hb) | ((with_reducible refine gate_store (t := 43) (p := 12) rfl ?_); refine store_event (t := 43) (p := 12) (w1 := (w4.setCell ⟨gp, 0, none⟩ (.int .i64 (rd_T43 l2 i).f0)).setCell ⟨gp, 1, none⟩ (.int .i64 (rd_T43 l2 i).f1)) rfl rfl rfl ?hs ?_; (case hs => first | (go_simp; done) | (go_simp; rfl)); intro w5 hw5; have EB5 := Aside0.mk (show w5.heap[gp]? = some (.cells #[.int .i64 (rd_T43 l2 i).f0, .int .i64 (rd_T43 l2 i).f1] 43 (0, 0)) by rw [hw5]; exact blk_put (blk_put EB.out 0 _ rfl) 1 _ rfl); have E5 := Aside0.mk (show EnvA w w5 gC gF #[.int .i64 a0_0, .int .i64 a0_1, .int .i64 a0_2, .int .i64 a0_3, .int .i64 a0_4, .int .i64 a0_5, .bool a0_6] ⟨a1_0, a1_1, a1_2⟩ vd d by rw [hw5]; exact (E4.out.set HGp.out.1 HGp.out.2.1 HGp.out.2.2 EB.out (by decide) 0 _).set HGp.out.1 HGp.out.2.1 HGp.out.2.2 (blk_set EB.out 0 _) (by decide) 1 _); clear hw5 hp0 hp1 hpf0 hpf1 hx0 hx1; have hp0 : w5.cell? ⟨gp, 0, none⟩ = some (.int .i64 (rd_T43 l2 i).f0) := (blk_cell EB5.out 0).trans rfl; have hp1 : w5.cell? ⟨gp, 1, none⟩ = some (.int .i64 (rd_T43 l2 i).f1) := (blk_cell EB5.out 1).trans rfl))
              · go_roundw
                case rel => exact ⟨i + 1, true, by go_num, rfl, by omega, by omega, ⟨by rw [show (i + 1).toNat = i.toNat + 1 by omega, List.take_succ_eq_append_getElem (by omega), List.any_append, ← Bool.or_assoc, ← HBB.out]; simp⟩, E5⟩
                case measure => simp [intOf]; omega

            | false =>
              cases q0 : farB (rd_T43 l2 i).f0 with
              | true =>
                have Q0 := Aside0.mk q0
                clear q0
                go_wp2_with (first | ((with_reducible refine gate_dst (N := 12) rfl ?_); refine box_event ?hg (N := 12) ?hd (cs := #[.int .i64 0, .int .i64 0]) (t := 43) ?hr ?_; (case hd => rfl); (case hg => rfl); (case hr => first | (go_simp; done) | (go_simp; rfl)); intro gp hg w4 hbox hb; have EB := Aside0.mk hbox; have E4 := Aside0.mk (E3.out.step hb); have HGp := Aside0.mk (show w.heap.size ≤ gp ∧ gC ≠ gp ∧ gF ≠ gp from ⟨by have := E3.out.b.size; omega, by have := blk_lt E3.out.c; omega, by have := blk_lt E3.out.f; omega⟩); have hp0 : w4.cell? ⟨gp, 0, none⟩ = some (.int .i64 0) := (blk_cell EB.out 0).trans rfl; have hp1 : w4.cell? ⟨gp, 1, none⟩ = some (.int .i64 0) := (blk_cell EB.out 1).trans rfl; have hpf0 := blk_frozen EB.out 0; have hpf1 := blk_frozen EB.out 1; clear hg hbox hb) | ((with_reducible refine gate_store (t := 43) (p := 12) rfl ?_); refine store_event (t := 43) (p := 12) (w1 := (w4.setCell ⟨gp, 0, none⟩ (.int .i64 (rd_T43 l2 i).f0)).setCell ⟨gp, 1, none⟩ (.int .i64 (rd_T43 l2 i).f1)) rfl rfl rfl ?hs ?_; (case hs => first | (go_simp; done) | (go_simp; rfl)); intro w5 hw5; have EB5 := Aside0.mk (show w5.heap[gp]? = some (.cells #[.int .i64 (rd_T43 l2 i).f0, .int .i64 (rd_T43 l2 i).f1] 43 (0, 0)) by rw [hw5]; exact blk_put (blk_put EB.out 0 _ rfl) 1 _ rfl); have E5 := Aside0.mk (show EnvA w w5 gC gF #[.int .i64 a0_0, .int .i64 a0_1, .int .i64 a0_2, .int .i64 a0_3, .int .i64 a0_4, .int .i64 a0_5, .bool a0_6] ⟨a1_0, a1_1, a1_2⟩ vd d by rw [hw5]; exact (E4.out.set HGp.out.1 HGp.out.2.1 HGp.out.2.2 EB.out (by decide) 0 _).set HGp.out.1 HGp.out.2.1 HGp.out.2.2 (blk_set EB.out 0 _) (by decide) 1 _); clear hw5 hp0 hp1 hpf0 hpf1 hx0 hx1; have hp0 : w5.cell? ⟨gp, 0, none⟩ = some (.int .i64 (rd_T43 l2 i).f0) := (blk_cell EB5.out 0).trans rfl; have hp1 : w5.cell? ⟨gp, 1, none⟩ = some (.int .i64 (rd_T43 l2 i).f1) := (blk_cell EB5.out 1).trans rfl) | (go_at_call 26; (with_reducible refine (far_yes _ _ Q0.out).mono ?_); rintro e w' ⟨rfl, rfl⟩))
                · go_roundw
                  case rel => exact ⟨i + 1, true, by go_num, rfl, by omega, by omega, ⟨by rw [show (i + 1).toNat = i.toNat + 1 by omega, List.take_succ_eq_append_getElem (by omega), List.any_append, ← Bool.or_assoc, ← HBB.out]; simp [farG, ← HEl.out, Q0.out]⟩, E5⟩
                  case measure => simp [intOf]; omega

              | false =>
                have Q0 := Aside0.mk q0
                clear q0
                cases q1 : farB (rd_T43 l2 i).f1 with
                | true =>
                  have Q1 := Aside0.mk q1
                  clear q1
                  go_wp2_with (first | ((with_reducible refine gate_dst (N := 12) rfl ?_); refine box_event ?hg (N := 12) ?hd (cs := #[.int .i64 0, .int .i64 0]) (t := 43) ?hr ?_; (case hd => rfl); (case hg => rfl); (case hr => first | (go_simp; done) | (go_simp; rfl)); intro gp hg w4 hbox hb; have EB := Aside0.mk hbox; have E4 := Aside0.mk (E3.out.step hb); have HGp := Aside0.mk (show w.heap.size ≤ gp ∧ gC ≠ gp ∧ gF ≠ gp from ⟨by have := E3.out.b.size; omega, by have := blk_lt E3.out.c; omega, by have := blk_lt E3.out.f; omega⟩); have hp0 : w4.cell? ⟨gp, 0, none⟩ = some (.int .i64 0) := (blk_cell EB.out 0).trans rfl; have hp1 : w4.cell? ⟨gp, 1, none⟩ = some (.int .i64 0) := (blk_cell EB.out 1).trans rfl; have hpf0 := blk_frozen EB.out 0; have hpf1 := blk_frozen EB.out 1; clear hg hbox hb) | ((with_reducible refine gate_store (t := 43) (p := 12) rfl ?_); refine store_event (t := 43) (p := 12) (w1 := (w4.setCell ⟨gp, 0, none⟩ (.int .i64 (rd_T43 l2 i).f0)).setCell ⟨gp, 1, none⟩ (.int .i64 (rd_T43 l2 i).f1)) rfl rfl rfl ?hs ?_; (case hs => first | (go_simp; done) | (go_simp; rfl)); intro w5 hw5; have EB5 := Aside0.mk (show w5.heap[gp]? = some (.cells #[.int .i64 (rd_T43 l2 i).f0, .int .i64 (rd_T43 l2 i).f1] 43 (0, 0)) by rw [hw5]; exact blk_put (blk_put EB.out 0 _ rfl) 1 _ rfl); have E5 := Aside0.mk (show EnvA w w5 gC gF #[.int .i64 a0_0, .int .i64 a0_1, .int .i64 a0_2, .int .i64 a0_3, .int .i64 a0_4, .int .i64 a0_5, .bool a0_6] ⟨a1_0, a1_1, a1_2⟩ vd d by rw [hw5]; exact (E4.out.set HGp.out.1 HGp.out.2.1 HGp.out.2.2 EB.out (by decide) 0 _).set HGp.out.1 HGp.out.2.1 HGp.out.2.2 (blk_set EB.out 0 _) (by decide) 1 _); clear hw5 hp0 hp1 hpf0 hpf1 hx0 hx1; have hp0 : w5.cell? ⟨gp, 0, none⟩ = some (.int .i64 (rd_T43 l2 i).f0) := (blk_cell EB5.out 0).trans rfl; have hp1 : w5.cell? ⟨gp, 1, none⟩ = some (.int .i64 (rd_T43 l2 i).f1) := (blk_cell EB5.out 1).trans rfl) | (go_at_call 26; (with_reducible refine (far_no _ _ Q0.out).mono ?_); rintro e w' ⟨rfl, rfl⟩) | (go_at_call 26; (with_reducible refine (far_yes _ _ Q1.out).mono ?_); rintro e w' ⟨rfl, rfl⟩))
                  · go_roundw
                    case rel => exact ⟨i + 1, true, by go_num, rfl, by omega, by omega, ⟨by rw [show (i + 1).toNat = i.toNat + 1 by omega, List.take_succ_eq_append_getElem (by omega), List.any_append, ← Bool.or_assoc, ← HBB.out]; simp [farG, ← HEl.out, Q0.out, Q1.out]⟩, E5⟩
                    case measure => simp [intOf]; omega

                | false =>
                  have Q1 := Aside0.mk q1
                  clear q1
                  go_wp2_with (first | ((with_reducible refine gate_dst (N := 12) rfl ?_); refine box_event ?hg (N := 12) ?hd (cs := #[.int .i64 0, .int .i64 0]) (t := 43) ?hr ?_; (case hd => rfl); (case hg => rfl); (case hr => first | (go_simp; done) | (go_simp; rfl)); intro gp hg w4 hbox hb; have EB := Aside0.mk hbox; have E4 := Aside0.mk (E3.out.step hb); have HGp := Aside0.mk (show w.heap.size ≤ gp ∧ gC ≠ gp ∧ gF ≠ gp from ⟨by have := E3.out.b.size; omega, by have := blk_lt E3.out.c; omega, by have := blk_lt E3.out.f; omega⟩); have hp0 : w4.cell? ⟨gp, 0, none⟩ = some (.int .i64 0) := (blk_cell EB.out 0).trans rfl; have hp1 : w4.cell? ⟨gp, 1, none⟩ = some (.int .i64 0) := (blk_cell EB.out 1).trans rfl; have hpf0 := blk_frozen EB.out 0; have hpf1 := blk_frozen EB.out 1; clear hg hbox hb) | ((with_reducible refine gate_store (t := 43) (p := 12) rfl ?_); refine store_event (t := 43) (p := 12) (w1 := (w4.setCell ⟨gp, 0, none⟩ (.int .i64 (rd_T43 l2 i).f0)).setCell ⟨gp, 1, none⟩ (.int .i64 (rd_T43 l2 i).f1)) rfl rfl rfl ?hs ?_; (case hs => first | (go_simp; done) | (go_simp; rfl)); intro w5 hw5; have EB5 := Aside0.mk (show w5.heap[gp]? = some (.cells #[.int .i64 (rd_T43 l2 i).f0, .int .i64 (rd_T43 l2 i).f1] 43 (0, 0)) by rw [hw5]; exact blk_put (blk_put EB.out 0 _ rfl) 1 _ rfl); have E5 := Aside0.mk (show EnvA w w5 gC gF #[.int .i64 a0_0, .int .i64 a0_1, .int .i64 a0_2, .int .i64 a0_3, .int .i64 a0_4, .int .i64 a0_5, .bool a0_6] ⟨a1_0, a1_1, a1_2⟩ vd d by rw [hw5]; exact (E4.out.set HGp.out.1 HGp.out.2.1 HGp.out.2.2 EB.out (by decide) 0 _).set HGp.out.1 HGp.out.2.1 HGp.out.2.2 (blk_set EB.out 0 _) (by decide) 1 _); clear hw5 hp0 hp1 hpf0 hpf1 hx0 hx1; have hp0 : w5.cell? ⟨gp, 0, none⟩ = some (.int .i64 (rd_T43 l2 i).f0) := (blk_cell EB5.out 0).trans rfl; have hp1 : w5.cell? ⟨gp, 1, none⟩ = some (.int .i64 (rd_T43 l2 i).f1) := (blk_cell EB5.out 1).trans rfl) | (go_at_call 26; (with_reducible refine (far_no _ _ Q0.out).mono ?_); rintro e w' ⟨rfl, rfl⟩) | (go_at_call 26; (with_reducible refine (far_no _ _ Q1.out).mono ?_); rintro e w' ⟨rfl, rfl⟩))
                  · go_roundw
                    case rel => exact ⟨i + 1, false, by go_num, rfl, by omega, by omega, ⟨by rw [show (i + 1).toNat = i.toNat + 1 by omega, List.take_succ_eq_append_getElem (by omega), List.any_append, ← Bool.or_assoc, ← HBB.out]; simp [farG, ← HEl.out, Q0.out, Q1.out]⟩, E5⟩
                    case measure => simp [intOf]; omega

          · obtain rfl : i = (l2.length : Int) := by omega
            have hltb : decide ((l2.length : Int) < (l2.length : Int)) = false := decide_eq_false (by omega)
            have hb := HBB.out
            rw [Int.toNat_natCast, List.take_length, HB0.out] at hb
            have h := HH.out
            rw [← hb] at h
            clear hb HBB HB0
            cases b with
            | true =>
              rw [if_pos rfl] at h
              simp only [Option.some.injEq, Prod.mk.injEq] at h
              obtain ⟨rfl, rfl⟩ := h
              go_wp2
              go_ret2
              exact ⟨_, rfl, Kd.R_nil _ _ _ _ _, E3.out.b⟩
            | false =>
              rw [if_neg (by decide)] at h
              have HS := Aside0.mk (Option.some.inj h)
              clear h HH
              obtain ⟨hgh, hhb⟩ : ∃ b : Bool, b = a0_6 := ⟨_, rfl⟩
              rw [← hhb] at HS E3
              clear hhb
              go_wp2_with (first | ((with_reducible refine gate_dst (N := 13) rfl ?_); refine box_event ?hg (N := 13) ?hd (cs := #[.slice none 0 0]) (t := 38) ?hr ?_; (case hd => rfl); (case hg => rfl); (case hr => first | (go_simp; done) | (go_simp; rfl)); intro gO hg w4 hbox hb; have E4 := Aside0.mk (show EnvC w w4 [(gC, #[.int .i64 a0_0, .int .i64 a0_1, .int .i64 a0_2, .int .i64 a0_3, .int .i64 a0_4, .int .i64 a0_5, .bool hgh], 29)] gF gO (⟨a1_0, a1_1, a1_2⟩, []) (.slice none 0 0) vd d from E3.out.make hb hg hbox); clear hg hbox hb))
              go_loopw [63] (fun v63 W => ∃ (i : Int) (s : St) (v : Value), v63 = .int .i64 i ∧ 0 ≤ i ∧ i ≤ l2.length ∧ s.2.length ≤ 20000 ∧ Aside0 (stAll a0_1 a0_4 a0_5 hgh d (l2.drop i.toNat) s = (r1, r2)) ∧ Aside0 (EnvC w W [(gC, #[.int .i64 a0_0, .int .i64 a0_1, .int .i64 a0_2, .int .i64 a0_3, .int .i64 a0_4, .int .i64 a0_5, .bool hgh], 29)] gF gO s v vd d)) (fun v63 _ => l2.length - (intOf v63).toNat)
              case atStart => exact ⟨0, _, _, rfl, by omega, by omega, by simp, HS, E4⟩
              case round =>
                clear E4 E3 HS hltb
                obtain ⟨i, s, v, rfl, hi0, hi1, hsl, HS, E4⟩ := hrel
                by_cases hlt : i < (l2.length : Int)
                · have hltb : decide (i < (l2.length : Int)) = true := decide_eq_true hlt
                  have hel : l2.drop i.toNat = rd_T43 l2 i :: l2.drop (i + 1).toNat := by unfold rd_T43; rw [List.getD_eq_getElem?_getD, List.getElem?_eq_getElem (by omega), show (i + 1).toNat = i.toNat + 1 by omega]; exact List.drop_eq_getElem_cons (by omega)
                  have hs := HS.out
                  rw [hel] at hs
                  have HS2 := Aside0.mk hs
                  clear hel hs HS
                  obtain ⟨ad, e1, hx0, hx1⟩ := at_T43 HR2.out i hi0 hlt
                  cases e1
                  generalize hg0 : rd_T43 l2 i = g at hx0 hx1 HS2
                  clear hg0
                  replace hx0 := (E4.out.b.cell (World.block_lt_of_cell? w _ hx0)).trans hx0
                  replace hx1 := (E4.out.b.cell (World.block_lt_of_cell? w _ hx1)).trans hx1
                  go_upto_if 71 with (first | ((with_reducible refine gate_dst (N := 16) rfl ?_); refine box_event ?hg (N := 16) ?hd (cs := #[.int .i64 0, .int .i64 0]) (t := 43) ?hr ?_; (case hd => rfl); (case hg => rfl); (case hr => first | (go_simp; done) | (go_simp; rfl)); intro gp hg w5 hbox hb; have E5 := Aside0.mk (E4.out.box hb hg hbox (by decide)); have HGp := Aside0.mk (show w.heap.size ≤ gp ∧ ∀ b ∈ [((gC, #[.int .i64 a0_0, .int .i64 a0_1, .int .i64 a0_2, .int .i64 a0_3, .int .i64 a0_4, .int .i64 a0_5, .bool hgh], 29) : Nat × Array Value × TypeId)], b.1 ≠ gp from ⟨by have := E4.out.b.size; omega, fun b hb' => by have := blk_lt (E4.out.x b hb').1; omega⟩); have hp0 : w5.cell? ⟨gp, 0, none⟩ = some (.int .i64 0) := (blk_cell hbox 0).trans rfl; have hp1 : w5.cell? ⟨gp, 1, none⟩ = some (.int .i64 0) := (blk_cell hbox 1).trans rfl; have hpf0 := blk_frozen hbox 0; have hpf1 := blk_frozen hbox 1; clear hg hbox hb) | ((with_reducible refine gate_store (t := 43) (p := 16) rfl ?_); refine store_event (t := 43) (p := 16) (w1 := (w5.setCell ⟨gp, 0, none⟩ (.int .i64 g.f0)).setCell ⟨gp, 1, none⟩ (.int .i64 g.f1)) rfl rfl rfl ?hs ?_; (case hs => first | (go_simp; done) | (go_simp; rfl)); intro w6 hw6; have E6 := Aside0.mk (show EnvC w w6 [(gp, #[.int .i64 g.f0, .int .i64 g.f1], 43), (gC, #[.int .i64 a0_0, .int .i64 a0_1, .int .i64 a0_2, .int .i64 a0_3, .int .i64 a0_4, .int .i64 a0_5, .bool hgh], 29)] gF gO s v vd d by rw [hw6]; exact (E5.out.put HGp.out.2 (by decide) HGp.out.1 0 _ _ rfl).put HGp.out.2 (by decide) HGp.out.1 1 _ _ rfl); clear hw6 hp0 hp1 hpf0 hpf1 hx0 hx1 E5; have hp0 : w6.cell? ⟨gp, 0, none⟩ = some (.int .i64 g.f0) := (blk_cell ((E6.out.x _ (.head _)).1) 0).trans rfl; have hp1 : w6.cell? ⟨gp, 1, none⟩ = some (.int .i64 g.f1) := (blk_cell ((E6.out.x _ (.head _)).1) 1).trans rfl; have hc1 : w6.cell? ⟨gC, 1, none⟩ = some (.int .i64 a0_1) := (blk_cell ((E6.out.x _ (.tail _ (.head _))).1) 1).trans rfl; have hf0 : w6.cell? ⟨gF, 0, none⟩ = some (.int .i64 s.1.f0) := (blk_cell (E6.out.f) 0).trans rfl; have hf1 : w6.cell? ⟨gF, 1, none⟩ = some (.int .i64 s.1.f1) := (blk_cell (E6.out.f) 1).trans rfl; have hf2 : w6.cell? ⟨gF, 2, none⟩ = some (.int .i64 s.1.f2) := (blk_cell (E6.out.f) 2).trans rfl))
                  go_cut [] (fun wc => ∃ v', Aside0 (EnvC w wc [(gp, #[.int .i64 g.f0, .int .i64 g.f1], 43), (gC, #[.int .i64 a0_0, .int .i64 a0_1, .int .i64 a0_2, .int .i64 a0_3, .int .i64 a0_4, .int .i64 a0_5, .bool hgh], 29)] gF gO (stLow a0_1 s) v' vd d))
                  case first =>
                    by_cases hq : s.1.f2 < a0_1
                    · have hqb : decide (s.1.f2 < a0_1) = true := decide_eq_true hq
                      have HQ := Aside0.mk hq
                      go_wp2_with (go_at_call 28; (with_reducible refine (E6.out.to 1 s.1.f0 s.1.f1 a0_1 0 (by omega)).mono ?_); rintro e w' ⟨rfl, v', hE⟩; have E7 := Aside0.mk hE; clear hE)
                      go_meet
                      case rel => exact ⟨v', by unfold stLow; rw [if_pos HQ.out]; exact E7⟩
                    · have hqb : decide (s.1.f2 < a0_1) = false := decide_eq_false hq
                      have HQ := Aside0.mk hq
                      go_wp2_with fail
                      go_meet
                      case rel => exact ⟨v, by unfold stLow; rw [if_neg (by have := HQ.out; omega)]; exact E6⟩
                  case rest =>
                    clear hp0 hp1 hc1 hf0 hf1 hf2 E6
                    obtain ⟨v1, E7⟩ := hcut
                    have hs1 : (stLow a0_1 s).2.length ≤ 20001 := by unfold stLow; have := stTo_len s 1 ⟨s.1.f0, s.1.f1, a0_1⟩ 0; split <;> omega
                    generalize hgs : stLow a0_1 s = s1 at E7 hs1
                    have HG1 := Aside0.mk hgs
                    clear hgs
                    have hp0 : wc.cell? ⟨gp, 0, none⟩ = some (.int .i64 g.f0) := (blk_cell ((E7.out.x _ (.head _)).1) 0).trans rfl
                    have hp1 : wc.cell? ⟨gp, 1, none⟩ = some (.int .i64 g.f1) := (blk_cell ((E7.out.x _ (.head _)).1) 1).trans rfl
                    have hc1 : wc.cell? ⟨gC, 1, none⟩ = some (.int .i64 a0_1) := (blk_cell ((E7.out.x _ (.tail _ (.head _))).1) 1).trans rfl
                    have hf0 : wc.cell? ⟨gF, 0, none⟩ = some (.int .i64 s1.1.f0) := (blk_cell (E7.out.f) 0).trans rfl
                    have hf1 : wc.cell? ⟨gF, 1, none⟩ = some (.int .i64 s1.1.f1) := (blk_cell (E7.out.f) 1).trans rfl
                    have hf2 : wc.cell? ⟨gF, 2, none⟩ = some (.int .i64 s1.1.f2) := (blk_cell (E7.out.f) 2).trans rfl
                    go_wp2_with (first | ((go_at_call 28; (with_reducible refine (E7.out.to 1 g.f0 g.f1 s1.1.f2 0 (by omega)).mono ?_)); rintro e w8 ⟨rfl, v2, hE⟩; have E8 := Aside0.mk hE; clear hE; clear hp0 hp1 hc1 hf0 hf1 hf2; have hp0 : w8.cell? ⟨gp, 0, none⟩ = some (.int .i64 g.f0) := (blk_cell ((E8.out.x _ (.head _)).1) 0).trans rfl; have hp1 : w8.cell? ⟨gp, 1, none⟩ = some (.int .i64 g.f1) := (blk_cell ((E8.out.x _ (.head _)).1) 1).trans rfl; have hc1 : w8.cell? ⟨gC, 1, none⟩ = some (.int .i64 a0_1) := (blk_cell ((E8.out.x _ (.tail _ (.head _))).1) 1).trans rfl) | ((with_reducible refine gate_dst (N := 17) rfl ?_); refine box_event ?hg (N := 17) ?hd (cs := #[.int .i64 0, .int .i64 0, .int .i64 0]) (t := 36) ?hr ?_; (case hd => rfl); (case hg => rfl); (case hr => first | (go_simp; done) | (go_simp; rfl)); intro gt hg w9 hbox hb; have E9 := Aside0.mk (E8.out.box hb hg hbox (by decide)); have HGt := Aside0.mk (show w.heap.size ≤ gt ∧ ∀ b ∈ ([(gp, #[.int .i64 g.f0, .int .i64 g.f1], 43), (gC, #[.int .i64 a0_0, .int .i64 a0_1, .int .i64 a0_2, .int .i64 a0_3, .int .i64 a0_4, .int .i64 a0_5, .bool hgh], 29)] : List (Nat × Array Value × TypeId)), b.1 ≠ gt from ⟨by have := E8.out.b.size; omega, fun b hb' => by have := blk_lt (E8.out.x b hb').1; omega⟩); have ht0' : w9.cell? ⟨gt, 0, none⟩ = some (.int .i64 0) := (blk_cell hbox 0).trans rfl; have ht1' : w9.cell? ⟨gt, 1, none⟩ = some (.int .i64 0) := (blk_cell hbox 1).trans rfl; have ht2' : w9.cell? ⟨gt, 2, none⟩ = some (.int .i64 0) := (blk_cell hbox 2).trans rfl; have htf0 := blk_frozen hbox 0; have htf1 := blk_frozen hbox 1; have htf2 := blk_frozen hbox 2; clear hg hbox hb) | ((with_reducible refine gate_store (t := 36) (p := 17) rfl ?_); refine store_event (t := 36) (p := 17) (w1 := ((w9.setCell ⟨gt, 0, none⟩ (.int .i64 g.f0)).setCell ⟨gt, 1, none⟩ (.int .i64 g.f1)).setCell ⟨gt, 2, none⟩ (.int .i64 a0_1)) rfl rfl rfl ?hs ?_; (case hs => first | (go_simp; done) | (go_simp; rfl)); intro w10 hw10; have E10 := Aside0.mk (show EnvC w w10 [(gt, #[.int .i64 g.f0, .int .i64 g.f1, .int .i64 a0_1], 36), (gp, #[.int .i64 g.f0, .int .i64 g.f1], 43), (gC, #[.int .i64 a0_0, .int .i64 a0_1, .int .i64 a0_2, .int .i64 a0_3, .int .i64 a0_4, .int .i64 a0_5, .bool hgh], 29)] gF gO (stTo s1 1 ⟨g.f0, g.f1, s1.1.f2⟩ 0) v2 vd d by rw [hw10]; exact ((E9.out.put HGt.out.2 (by decide) HGt.out.1 0 _ _ rfl).put HGt.out.2 (by decide) HGt.out.1 1 _ _ rfl).put HGt.out.2 (by decide) HGt.out.1 2 _ _ rfl); clear hw10 ht0' ht1' ht2' htf0 htf1 htf2 hp0 hp1 hc1 E9; have HL10 := Aside0.mk (show (stTo s1 1 ⟨g.f0, g.f1, s1.1.f2⟩ 0).2.length < 100000 by have := stTo_len s1 1 ⟨g.f0, g.f1, s1.1.f2⟩ 0; omega); have ht0 : w10.cell? ⟨gt, 0, none⟩ = some (.int .i64 g.f0) := (blk_cell ((E10.out.x _ (.head _)).1) 0).trans rfl; have ht1 : w10.cell? ⟨gt, 1, none⟩ = some (.int .i64 g.f1) := (blk_cell ((E10.out.x _ (.head _)).1) 1).trans rfl; have ht2 : w10.cell? ⟨gt, 2, none⟩ = some (.int .i64 a0_1) := (blk_cell ((E10.out.x _ (.head _)).1) 2).trans rfl) | (go_at_call 28; (with_reducible refine (E10.out.to 1 g.f0 g.f1 a0_1 0 HL10.out).mono ?_); rintro e w11 ⟨rfl, v3, hE⟩; have E11 := Aside0.mk hE; clear hE; clear ht0 ht1 ht2; have HSl := Kd.R_slice E11.out.d; obtain ⟨Ad, cd, rfl⟩ := HSl))
                    have hs3 : (stTo (stTo s1 1 ⟨g.f0, g.f1, s1.1.f2⟩ 0) 1 ⟨g.f0, g.f1, a0_1⟩ 0).2.length ≤ 20003 := by have := stTo_len (stTo s1 1 ⟨g.f0, g.f1, s1.1.f2⟩ 0) 1 ⟨g.f0, g.f1, a0_1⟩ 0; have := stTo_len s1 1 ⟨g.f0, g.f1, s1.1.f2⟩ 0; omega
                    generalize hg3 : stTo (stTo s1 1 ⟨g.f0, g.f1, s1.1.f2⟩ 0) 1 ⟨g.f0, g.f1, a0_1⟩ 0 = s3 at E11 hs3
                    have HG3 := Aside0.mk (show s3 = stTop a0_1 s g by rw [← hg3, ← HG1.out]; rfl)
                    clear hg3 HL10 E10 E8 E7
                    go_loopw [102] (fun v102 W => ∃ (j : Int) (s' : St) (v' : Value), v102 = .int .i64 j ∧ 0 ≤ j ∧ j ≤ d.length ∧ s'.2.length ≤ 20003 + 2 * j ∧ Aside0 (s' = (d.take j.toNat).foldl (stDrill a0_1 a0_4 g) s3) ∧ Aside0 (EnvC w W [(gt, #[.int .i64 g.f0, .int .i64 g.f1, .int .i64 a0_1], 36), (gp, #[.int .i64 g.f0, .int .i64 g.f1], 43), (gC, #[.int .i64 a0_0, .int .i64 a0_1, .int .i64 a0_2, .int .i64 a0_3, .int .i64 a0_4, .int .i64 a0_5, .bool hgh], 29)] gF gO s' v' (.slice Ad d.length cd) d)) (fun v102 _ => d.length - (intOf v102).toNat)
                    case atStart => exact ⟨0, s3, _, rfl, by omega, by omega, by omega, ⟨by simp⟩, E11⟩
                    case round =>
                      clear E11
                      obtain ⟨j, s', v', rfl, hj0, hj1, hsj, HJ, E11⟩ := hrel
                      by_cases hltj : j < (d.length : Int)
                      · have hltjb : decide (j < (d.length : Int)) = true := decide_eq_true hltj
                        obtain ⟨ad2, e2, hz⟩ := Kd.at_int (Kd.R_reads' E11.out.d).2.2 j hj0 hltj
                        cases e2
                        have hel2 : d.take (j + 1).toNat = d.take j.toNat ++ [rd d j] := by rw [show (j + 1).toNat = j.toNat + 1 by omega, List.take_succ_eq_append_getElem (by omega)]; unfold rd; rw [List.getD_eq_getElem?_getD, List.getElem?_eq_getElem (by omega)]; rfl
                        have HE2 := Aside0.mk hel2
                        clear hel2
                        generalize rd d j = zz at hz HE2
                        have HL1 := Aside0.mk (show s'.2.length < 100000 by omega)
                        have HL2 := Aside0.mk (show (stTo s' 2 ⟨g.f0, g.f1, zz⟩ a0_4).2.length < 100000 by have := stTo_len s' 2 ⟨g.f0, g.f1, zz⟩ a0_4; omega)
                        have hp0 : wr.cell? ⟨gp, 0, none⟩ = some (.int .i64 g.f0) := (blk_cell ((E11.out.x _ (.tail _ (.head _))).1) 0).trans rfl
                        have hp1 : wr.cell? ⟨gp, 1, none⟩ = some (.int .i64 g.f1) := (blk_cell ((E11.out.x _ (.tail _ (.head _))).1) 1).trans rfl
                        have hc4 : wr.cell? ⟨gC, 4, none⟩ = some (.int .i64 a0_4) := (blk_cell ((E11.out.x _ (.tail _ (.tail _ (.head _)))).1) 4).trans rfl
                        go_wp2_with (first | (go_at_call 28; (with_reducible refine (E11.out.to 2 g.f0 g.f1 zz a0_4 HL1.out).mono ?_); rintro e w12 ⟨rfl, v4, hE⟩; have E12 := Aside0.mk hE; clear hE; clear hz hp0 hp1 hc4; have ht0 : w12.cell? ⟨gt, 0, none⟩ = some (.int .i64 g.f0) := (blk_cell ((E12.out.x _ (.head _)).1) 0).trans rfl; have ht1 : w12.cell? ⟨gt, 1, none⟩ = some (.int .i64 g.f1) := (blk_cell ((E12.out.x _ (.head _)).1) 1).trans rfl; have ht2 : w12.cell? ⟨gt, 2, none⟩ = some (.int .i64 a0_1) := (blk_cell ((E12.out.x _ (.head _)).1) 2).trans rfl) | (go_at_call 28; (with_reducible refine (E12.out.to 1 g.f0 g.f1 a0_1 0 HL2.out).mono ?_); rintro e w13 ⟨rfl, v5, hE⟩; have E13 := Aside0.mk hE; clear hE; clear ht0 ht1 ht2))
                        go_roundw
                        case rel => exact ⟨j + 1, _, v5, by go_num, by omega, by omega, by have := stTo_len s' 2 ⟨g.f0, g.f1, zz⟩ a0_4; have := stTo_len (stTo s' 2 ⟨g.f0, g.f1, zz⟩ a0_4) 1 ⟨g.f0, g.f1, a0_1⟩ 0; omega, ⟨by rw [HE2.out, List.foldl_append, ← HJ.out]; rfl⟩, E13⟩
                        case measure => simp [intOf]; omega
                      · have hltjb : decide (j < (d.length : Int)) = false := decide_eq_false hltj
                        obtain rfl : j = (d.length : Int) := by omega
                        have HJ2 := Aside0.mk (show s' = d.foldl (stDrill a0_1 a0_4 g) s3 by have := HJ.out; rwa [Int.toNat_natCast, List.take_length] at this)
                        clear HJ
                        have HL1 := Aside0.mk (show s'.2.length < 100000 by omega)
                        have hp0 : wr.cell? ⟨gp, 0, none⟩ = some (.int .i64 g.f0) := (blk_cell ((E11.out.x _ (.tail _ (.head _))).1) 0).trans rfl
                        have hp1 : wr.cell? ⟨gp, 1, none⟩ = some (.int .i64 g.f1) := (blk_cell ((E11.out.x _ (.tail _ (.head _))).1) 1).trans rfl
                        have hc5 : wr.cell? ⟨gC, 5, none⟩ = some (.int .i64 a0_5) := (blk_cell ((E11.out.x _ (.tail _ (.tail _ (.head _)))).1) 5).trans rfl
                        have hc6 : wr.cell? ⟨gC, 6, none⟩ = some (.bool hgh) := (blk_cell ((E11.out.x _ (.tail _ (.tail _ (.head _)))).1) 6).trans rfl
                        go_upto_if 121 with (fail)
                        go_cut [] (fun wc => ∃ v'', Aside0 (EnvC w wc [(gt, #[.int .i64 g.f0, .int .i64 g.f1, .int .i64 a0_1], 36), (gp, #[.int .i64 g.f0, .int .i64 g.f1], 43), (gC, #[.int .i64 a0_0, .int .i64 a0_1, .int .i64 a0_2, .int .i64 a0_3, .int .i64 a0_4, .int .i64 a0_5, .bool hgh], 29)] gF gO (stHigh a0_5 hgh g s') v'' (.slice Ad d.length cd) d))
                        case first =>
                          cases hgh with
                          | true =>
                            go_wp2_with (go_at_call 28; (with_reducible refine (E11.out.to 1 g.f0 g.f1 a0_5 0 HL1.out).mono ?_); rintro e w12 ⟨rfl, v4, hE⟩; have E12 := Aside0.mk hE; clear hE)
                            go_meet
                            case rel => exact ⟨v4, by unfold stHigh; rw [if_pos rfl]; exact E12⟩
                          | false =>
                            go_wp2_with fail
                            go_meet
                            case rel => exact ⟨v', by unfold stHigh; rw [if_neg (by decide)]; exact E11⟩
                        case rest =>
                          clear hp0 hp1 hc5 hc6 E11
                          obtain ⟨v6, E12⟩ := hcut
                          have HF := Aside0.mk (show stHigh a0_5 hgh g s' = stOne a0_1 a0_4 a0_5 hgh d s g by rw [HJ2.out, HG3.out]; rfl)
                          rw [HF.out] at E12
                          obtain ⟨s5, h5⟩ : ∃ s5, s5 = stOne a0_1 a0_4 a0_5 hgh d s g := ⟨_, rfl⟩
                          rw [← h5] at E12
                          have H5 := Aside0.mk h5
                          clear h5 HF
                          obtain ⟨An, cn, rfl⟩ := Kd.R_slice E12.out.r
                          have hv0 : wc.cell? ⟨gO, 0, none⟩ = some (.slice An s5.2.length cn) := (blk_cell E12.out.o 0).trans rfl
                          have hs := HS2.out
                          rw [stAll, ← H5.out] at hs
                          clear HS2
                          by_cases hbig : s5.2.length > 20000
                          · rw [if_pos hbig] at hs
                            simp only [Prod.mk.injEq] at hs
                            obtain ⟨rfl, rfl⟩ := hs
                            have hbb : decide ((20000 : Int) < (s5.2.length : Int)) = true := decide_eq_true (by omega)
                            have hbn : decide (20000 < s5.2.length) = true := decide_eq_true (by omega)
                            go_wp2
                            go_ret2
                            exact ⟨_, rfl, Kd.R_nil _ _ _ _ _, E12.out.b⟩
                          · rw [if_neg hbig] at hs
                            have HS3 := Aside0.mk hs
                            clear hs
                            have hbb : decide ((20000 : Int) < (s5.2.length : Int)) = false := decide_eq_false (by omega)
                            have hbn : decide (20000 < s5.2.length) = false := decide_eq_false (by omega)
                            go_wp2
                            go_roundw
                            case rel => exact ⟨i + 1, s5, _, by go_num, by omega, by omega, by omega, HS3, ⟨E12.out.drop2⟩⟩
                            case measure => simp [intOf]; omega
                · obtain rfl : i = (l2.length : Int) := by omega
                  have hltb : decide ((l2.length : Int) < (l2.length : Int)) = false := decide_eq_false (by omega)
                  have hs := HS.out
                  rw [Int.toNat_natCast, List.drop_length, stAll] at hs
                  simp only [Prod.mk.injEq] at hs
                  obtain ⟨rfl, rfl⟩ := hs
                  obtain ⟨An, cn, rfl⟩ := Kd.R_slice E4.out.r
                  have hv0 : wr.cell? ⟨gO, 0, none⟩ = some (.slice An s.2.length cn) := (blk_cell E4.out.o 0).trans rfl
                  go_wp2
                  go_ret2
                  exact ⟨_, rfl, E4.out.r, E4.out.b⟩
    · rw [if_neg ht] at h
      simp only [Option.some.injEq, Prod.mk.injEq] at h
      obtain ⟨rfl, rfl⟩ := h
      have ht0 : (t == 0) = false := beq_eq_false_iff_ne.mpr ht
      have ht1 : (t != 0) = true := bne_iff_ne.mpr ht
      go_enter Try.func15, Try.ntmps15
      go_wp2_with (first | ((with_reducible refine gate_dst (N := 3) rfl ?_); refine box_event ?hg (N := 3) ?hd (cs := #[.int .i64 a0_0, .int .i64 a0_1, .int .i64 a0_2, .int .i64 a0_3, .int .i64 a0_4, .int .i64 a0_5, .bool a0_6]) (t := 29) ?hr ?_; (case hd => rfl); (case hg => rfl); (case hr => first | (go_simp; done) | (go_simp; rfl)); intro gC hg w1 hbox hb; have E1 := Aside0.mk (show w1.heap[gC]? = some (.cells #[.int .i64 a0_0, .int .i64 a0_1, .int .i64 a0_2, .int .i64 a0_3, .int .i64 a0_4, .int .i64 a0_5, .bool a0_6] 29 (0, 0)) ∧ Below w.heap.size w w1 ∧ w.heap.size ≤ gC from ⟨hbox, hb, by omega⟩); clear hg hbox hb; have hx0 : w1.cell? ⟨gC, 0, none⟩ = some (.int .i64 a0_0) := (blk_cell E1.out.1 0).trans rfl; have hx1 : w1.cell? ⟨gC, 1, none⟩ = some (.int .i64 a0_1) := (blk_cell E1.out.1 1).trans rfl; have hx2 : w1.cell? ⟨gC, 2, none⟩ = some (.int .i64 a0_2) := (blk_cell E1.out.1 2).trans rfl; have hx3 : w1.cell? ⟨gC, 3, none⟩ = some (.int .i64 a0_3) := (blk_cell E1.out.1 3).trans rfl; have hx4 : w1.cell? ⟨gC, 4, none⟩ = some (.int .i64 a0_4) := (blk_cell E1.out.1 4).trans rfl; have hx5 : w1.cell? ⟨gC, 5, none⟩ = some (.int .i64 a0_5) := (blk_cell E1.out.1 5).trans rfl; have hx6 : w1.cell? ⟨gC, 6, none⟩ = some (.bool a0_6) := (blk_cell E1.out.1 6).trans rfl) | ((with_reducible refine gate_dst (N := 4) rfl ?_); refine box_event ?hg (N := 4) ?hd (cs := #[.int .i64 a1_0, .int .i64 a1_1, .int .i64 a1_2]) (t := 36) ?hr ?_; (case hd => rfl); (case hg => rfl); (case hr => first | (go_simp; done) | (go_simp; rfl)); intro gF hg w2 hbox hb; have E2 := Aside0.mk (show w2.heap[gC]? = some (.cells #[.int .i64 a0_0, .int .i64 a0_1, .int .i64 a0_2, .int .i64 a0_3, .int .i64 a0_4, .int .i64 a0_5, .bool a0_6] 29 (0, 0)) ∧ w2.heap[gF]? = some (.cells #[.int .i64 a1_0, .int .i64 a1_1, .int .i64 a1_2] 36 (0, 0)) ∧ Below w.heap.size w w2 ∧ w.heap.size ≤ gC ∧ w.heap.size ≤ gF from ⟨blk_below E1.out.1 hb, hbox, below_step E1.out.2.1 hb, E1.out.2.2, by have := E1.out.2.1.size; omega⟩); replace hx0 : w2.cell? ⟨gC, 0, none⟩ = some (.int .i64 a0_0) := (blk_cell E2.out.1 0).trans rfl; replace hx1 : w2.cell? ⟨gC, 1, none⟩ = some (.int .i64 a0_1) := (blk_cell E2.out.1 1).trans rfl; replace hx2 : w2.cell? ⟨gC, 2, none⟩ = some (.int .i64 a0_2) := (blk_cell E2.out.1 2).trans rfl; replace hx3 : w2.cell? ⟨gC, 3, none⟩ = some (.int .i64 a0_3) := (blk_cell E2.out.1 3).trans rfl; replace hx4 : w2.cell? ⟨gC, 4, none⟩ = some (.int .i64 a0_4) := (blk_cell E2.out.1 4).trans rfl; replace hx5 : w2.cell? ⟨gC, 5, none⟩ = some (.int .i64 a0_5) := (blk_cell E2.out.1 5).trans rfl; replace hx6 : w2.cell? ⟨gC, 6, none⟩ = some (.bool a0_6) := (blk_cell E2.out.1 6).trans rfl; clear E1 hg hbox hb) | ((with_reducible refine gate_callee (f := 10) rfl ?_); refine goesL_ (some 22) rfl rfl Try.func10 (by kernel_rfl) rfl #[.agg #[.int .i64 a0_0, .int .i64 a0_1, .int .i64 a0_2, .int .i64 a0_3, .int .i64 a0_4, .int .i64 a0_5, .bool a0_6]] rfl (by (try simp only [List.map_toArray, List.map_cons, List.map_nil]); first | done | rfl) ?_; (with_reducible refine (cycle_Depths.calls k a0_0 a0_1 a0_2 a0_3 a0_4 a0_5 a0_6 d t _ HD.out).mono ?_); rintro e w3 ⟨vd, rfl, hd, hb⟩; refine ⟨_, rfl, ?_⟩; have E3 := Aside0.mk (show EnvA w w3 gC gF _ ⟨a1_0, a1_1, a1_2⟩ vd d from ⟨blk_below E2.out.1 hb, blk_below E2.out.2.1 hb, Kd.R_lower hd E2.out.2.2.1.size, below_step E2.out.2.2.1 hb, E2.out.2.2.2.2, E2.out.2.2.2.1⟩); clear hd hb E2 hx0 hx1 hx2 hx3 hx4 hx5 hx6))
      go_ret2
      exact ⟨_, rfl, Kd.R_nil _ _ _ _ _, E3.out.b⟩
  · rw [if_neg hlen] at h
    exact absurd h (by simp)
end Go.Proofs.Ytmaochcdjmnffaa.P
