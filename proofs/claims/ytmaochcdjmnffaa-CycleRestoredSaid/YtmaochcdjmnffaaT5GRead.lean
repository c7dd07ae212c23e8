/- The contract of swarf/cycle.Read (function 20), by hand: it makes a closure. -/
import Derived.Test.YtmaochcdjmnffaaT5Px5
import Derived.Test.YtmaochcdjmnffaaT5GFind
namespace Go.Proofs.Ytmaochcdjmnffaa.P
open Go.RowKit Go.Proofs.YtmaochcdjmnffaaW.PrintWords Go.Proofs.YtmaochcdjmnffaaW.PrintLast Go.Proofs.YtmaochcdjmnffaaW.PrintMore
set_option linter.unusedVariables false
set_option linter.unusedSimpArgs false

def cycle_Read.f (k : Nat) (a0_0 : Bool) (l0_1 : List S80) (a0_2 : ByteArray) (a1 a2 a3 : Int) (a4 : Bool) (a5_0 a5_1 a5_2 a5_3 a5_4 a5_5 : Int) (a5_6 : Bool) : Option (Int × Int × Int × Int × Int × Int × Bool × Int) :=
  (cycle_Valid.f k a1 (valW l0_1 82 a5_1) (valW l0_1 90 a5_2) (valW l0_1 81 a5_3) (valW l0_1 70 a2) a3 a4).bind fun e =>
    if e = 0 then some (a1, valW l0_1 82 a5_1, valW l0_1 90 a5_2, valW l0_1 81 a5_3, valW l0_1 70 a2, a3, a4, 0) else some (0, 0, 0, 0, 0, 0, false, e)
theorem cycle_Read.mono : ∀ a0 a1 a2 a3 a4 a5 a6 a7 a8 a9 a10 a11 a12 a13 k, LeO (cycle_Read.f k a0 a1 a2 a3 a4 a5 a6 a7 a8 a9 a10 a11 a12 a13) (cycle_Read.f (k + 1) a0 a1 a2 a3 a4 a5 a6 a7 a8 a9 a10 a11 a12 a13) := by
  intro a0 a1 a2 a3 a4 a5 a6 a7 a8 a9 a10 a11 a12 a13 k
  unfold cycle_Read.f
  exact LeO.bind (cycle_Valid.mono _ _ _ _ _ _ _ _) (fun _ => LeO.refl _)

/-- Boxes of the call's own, none written meanwhile; the words; the call's beginning. -/
structure EnvR (w W : World) (X : List (Nat × Array Value × TypeId)) (A : Option Addr) (ws : List S80) : Prop where
  x : ∀ b ∈ X, W.heap[b.1]? = some (.cells b.2.1 b.2.2 (0, 0)) ∧ w.heap.size ≤ b.1
  r : Kd.C k80 W A ws.length ws
  b : Below w.heap.size w W
theorem EnvR.step {w W W1 : World} {X : List (Nat × Array Value × TypeId)} {A : Option Addr} {ws : List S80} (h : EnvR w W X A ws) (hb : Below W.heap.size W W1) : EnvR w W1 X A ws :=
  ⟨fun b hX => ⟨blk_below (h.x b hX).1 hb, (h.x b hX).2⟩, Kd.C_below h.r hb, below_step h.b hb⟩
theorem EnvR.drew {w W : World} {X : List (Nat × Array Value × TypeId)} {A : Option Addr} {ws : List S80} (h : EnvR w W X A ws) : EnvR w W.drew X A ws := h.step (below_drew (Below.refl _ _))
theorem EnvR.alloc {w W : World} {X : List (Nat × Array Value × TypeId)} {A : Option Addr} {ws : List S80} (h : EnvR w W X A ws) (o : Obj) : EnvR w (W.alloc o) X A ws := h.step (below_alloc (Below.refl _ _) o)
theorem EnvR.box {w W W1 : World} {X : List (Nat × Array Value × TypeId)} {A : Option Addr} {ws : List S80} (h : EnvR w W X A ws) (hb : Below W.heap.size W W1) {g : Nat} {cs : Array Value} {t : TypeId} (hg : g = W.heap.size) (hbox : W1.heap[g]? = some (.cells cs t (0, 0))) : EnvR w W1 ((g, cs, t) :: X) A ws := by
  have := h.step hb
  refine ⟨fun b hX => ?_, this.r, this.b⟩
  rcases List.mem_cons.1 hX with rfl | hX
  · exact ⟨hbox, by show w.heap.size ≤ g; have := h.b.size; omega⟩
  · exact this.x b hX
theorem EnvR.value {w W : World} {X : List (Nat × Array Value × TypeId)} {A : Option Addr} {ws : List S80} (h : EnvR w W X A ws) {skip : Bool} {c : Nat} {cm : ByteArray} {gB : Nat} (hB : (gB, #[.bool skip, .slice A ws.length c, .string cm], 54) ∈ X) (letter other : Int) :
    Calls Try.prog 30 #[.int .u8 letter, .int .i64 other, .pointer (some ⟨gB, 0, none⟩)] W fun e w' => e = .returned (.int .i64 (valW ws letter other)) ∧ EnvR w w' X A ws :=
  (value_any skip A c ws cm letter other gB W h.r (h.x _ hB).1).mono fun _ _ ⟨he, hb⟩ => ⟨he, h.step hb⟩

theorem EnvR.value_alloc {w W : World} {X : List (Nat × Array Value × TypeId)} {A : Option Addr} {ws : List S80} (h : EnvR w W X A ws) {skip : Bool} {c : Nat} {cm : ByteArray} {gB : Nat} (hB : (gB, #[.bool skip, .slice A ws.length c, .string cm], 54) ∈ X) (cs : Array Value) (t : TypeId) (letter other : Int) :
    Calls Try.prog 30 #[.int .u8 letter, .int .i64 other, .pointer (some ⟨gB, 0, none⟩)] (W.alloc (.cells cs t)) fun e w' => e = .returned (.int .i64 (valW ws letter other)) ∧ EnvR w w' ((W.heap.size, cs, t) :: X) A ws ∧ ∀ b ∈ X, b.1 ≠ W.heap.size ∧ W.heap.size ≠ b.1 :=
  ((h.box (below_alloc (Below.refl _ _) _) rfl (blk_new W _)).value (.tail _ hB) letter other).mono fun _ _ ⟨he, hE⟩ => ⟨he, hE, fun b hb => by have := blk_lt (h.x b hb).1; omega⟩
theorem EnvR.value_allocD {w W : World} {X : List (Nat × Array Value × TypeId)} {A : Option Addr} {ws : List S80} (h : EnvR w W X A ws) {skip : Bool} {c : Nat} {cm : ByteArray} {gB : Nat} (hB : (gB, #[.bool skip, .slice A ws.length c, .string cm], 54) ∈ X) (cs : Array Value) (t : TypeId) (letter other : Int) :
    Calls Try.prog 30 #[.int .u8 letter, .int .i64 other, .pointer (some ⟨gB, 0, none⟩)] (W.alloc (.cells cs t)).drew fun e w' => e = .returned (.int .i64 (valW ws letter other)) ∧ EnvR w w' ((W.heap.size, cs, t) :: X) A ws ∧ ∀ b ∈ X, b.1 ≠ W.heap.size ∧ W.heap.size ≠ b.1 :=
  (h.drew).value_alloc hB cs t letter other
theorem EnvR.held {w W : World} {X : List (Nat × Array Value × TypeId)} {A : Option Addr} {ws : List S80} (h : EnvR w W X A ws) {gD : Nat} {a0 a1 a2 a3 a4 a5 : Int} {a6 : Bool} (hm : (gD, #[.int .i64 a0, .int .i64 a1, .int .i64 a2, .int .i64 a3, .int .i64 a4, .int .i64 a5, .bool a6], 29) ∈ X) :
    W.cell? ⟨gD, 1, none⟩ = some (.int .i64 a1) ∧ W.cell? ⟨gD, 2, none⟩ = some (.int .i64 a2) ∧ W.cell? ⟨gD, 3, none⟩ = some (.int .i64 a3) :=
  ⟨(blk_cell (h.x _ hm).1 1).trans rfl, (blk_cell (h.x _ hm).1 2).trans rfl, (blk_cell (h.x _ hm).1 3).trans rfl⟩
theorem EnvR.zeros {w W : World} {X : List (Nat × Array Value × TypeId)} {A : Option Addr} {ws : List S80} {g : Nat} (h : EnvR w W ((g, #[.int .i64 0, .int .i64 0, .int .i64 0, .int .i64 0, .int .i64 0, .int .i64 0, .bool false], 29) :: X) A ws) :
    W.cell? ⟨g, 0, none⟩ = some (.int .i64 0) ∧ W.cell? ⟨g, 1, none⟩ = some (.int .i64 0) ∧ W.cell? ⟨g, 2, none⟩ = some (.int .i64 0) ∧ W.cell? ⟨g, 3, none⟩ = some (.int .i64 0) ∧ W.cell? ⟨g, 4, none⟩ = some (.int .i64 0) ∧ W.cell? ⟨g, 5, none⟩ = some (.int .i64 0) ∧ W.cell? ⟨g, 6, none⟩ = some (.bool false) ∧
      W.frozen? ⟨g, 0, none⟩ = false ∧ W.frozen? ⟨g, 1, none⟩ = false ∧ W.frozen? ⟨g, 2, none⟩ = false ∧ W.frozen? ⟨g, 3, none⟩ = false ∧ W.frozen? ⟨g, 4, none⟩ = false ∧ W.frozen? ⟨g, 5, none⟩ = false ∧ W.frozen? ⟨g, 6, none⟩ = false := by
  have hb := (h.x _ (.head _)).1
  exact ⟨(blk_cell hb 0).trans rfl, (blk_cell hb 1).trans rfl, (blk_cell hb 2).trans rfl, (blk_cell hb 3).trans rfl, (blk_cell hb 4).trans rfl, (blk_cell hb 5).trans rfl, (blk_cell hb 6).trans rfl, blk_frozen hb 0, blk_frozen hb 1, blk_frozen hb 2, blk_frozen hb 3, blk_frozen hb 4, blk_frozen hb 5, blk_frozen hb 6⟩

theorem EnvR.lt {w W : World} {X : List (Nat × Array Value × TypeId)} {A : Option Addr} {ws : List S80} (h : EnvR w W X A ws) {b : Nat × Array Value × TypeId} (hm : b ∈ X) : b.1 < W.heap.size := blk_lt (h.x b hm).1

/-- What is known behind the region: the new cycle, the result's box, the call's beginning. -/
structure EnvS (w W : World) (g gS : Nat) (cs zs : Array Value) : Prop where
  g : W.heap[g]? = some (.cells cs 29 (0, 0))
  s : W.heap[gS]? = some (.cells zs 29 (0, 0))
  b : Below w.heap.size w W
  l : w.heap.size ≤ gS
theorem EnvS.step {w W W1 : World} {g gS : Nat} {cs zs : Array Value} (h : EnvS w W g gS cs zs) (hb : Below W.heap.size W W1) : EnvS w W1 g gS cs zs := ⟨blk_below h.g hb, blk_below h.s hb, below_step h.b hb, h.l⟩
theorem EnvR.fill {w W : World} {X : List (Nat × Array Value × TypeId)} {A : Option Addr} {ws : List S80} {g gS : Nat} {zs : Array Value} (h : EnvR w W ((g, #[.int .i64 0, .int .i64 0, .int .i64 0, .int .i64 0, .int .i64 0, .int .i64 0, .bool false], 29) :: X) A ws) (hS : (gS, zs, 29) ∈ X) (hn : gS ≠ g) (a0 a1 a2 a3 a4 a5 : Int) (a6 : Bool) :
    EnvS w (((((((W.setCell ⟨g, 0, none⟩ (.int .i64 a0)).setCell ⟨g, 1, none⟩ (.int .i64 a1)).setCell ⟨g, 2, none⟩ (.int .i64 a2)).setCell ⟨g, 3, none⟩ (.int .i64 a3)).setCell ⟨g, 4, none⟩ (.int .i64 a4)).setCell ⟨g, 5, none⟩ (.int .i64 a5)).setCell ⟨g, 6, none⟩ (.bool a6)) g gS
      #[.int .i64 a0, .int .i64 a1, .int .i64 a2, .int .i64 a3, .int .i64 a4, .int .i64 a5, .bool a6] zs := by
  obtain ⟨h1, h2⟩ := h.x _ (.head _)
  obtain ⟨s1, s2⟩ := h.x _ (.tail _ hS)
  refine ⟨blk_put (blk_put (blk_put (blk_put (blk_put (blk_put (blk_put h1 0 _ rfl) 1 _ rfl) 2 _ rfl) 3 _ rfl) 4 _ rfl) 5 _ rfl) 6 _ rfl, ?_, below_set (below_set (below_set (below_set (below_set (below_set (below_set h.b h2) h2) h2) h2) h2) h2) h2, s2⟩
  exact (Below.heap_setCell _ _ _ gS hn).trans ((Below.heap_setCell _ _ _ gS hn).trans ((Below.heap_setCell _ _ _ gS hn).trans ((Below.heap_setCell _ _ _ gS hn).trans ((Below.heap_setCell _ _ _ gS hn).trans ((Below.heap_setCell _ _ _ gS hn).trans ((Below.heap_setCell _ _ _ gS hn).trans s1))))))

theorem EnvR.fresh {w W : World} {X : List (Nat × Array Value × TypeId)} {A : Option Addr} {ws : List S80} {gS : Nat} {zs : Array Value} (h : EnvR w W X A ws) (hS : (gS, zs, 29) ∈ X) (cs : Array Value) : EnvS w (W.alloc (.cells cs 29)) W.heap.size gS cs zs := by
  have h1 := h.box (below_alloc (Below.refl _ _) (.cells cs 29)) rfl (blk_new W _)
  exact ⟨(h1.x _ (.head _)).1, (h1.x _ (.tail _ hS)).1, h1.b, (h1.x _ (.tail _ hS)).2⟩

set_option maxHeartbeats 20000000 in
set_option maxRecDepth 100000 in
theorem cycle_Read.calls (k : Nat) (a0_0 : Bool) (A0_1 : Option Addr) (c0_1 : Nat) (l0_1 : List S80) (a0_2 : ByteArray) (a1 a2 a3 : Int) (a4 : Bool) (a5_0 a5_1 a5_2 a5_3 a5_4 a5_5 : Int) (a5_6 : Bool) (r1 r2 r3 r4 r5 r6 : Int) (r7 : Bool) (r8 : Int) (w : World)
    (hr0_1 : Kd.C k80 w A0_1 l0_1.length l0_1) (hc0_1 : l0_1.length ≤ c0_1) (h : cycle_Read.f k a0_0 l0_1 a0_2 a1 a2 a3 a4 a5_0 a5_1 a5_2 a5_3 a5_4 a5_5 a5_6 = some (r1, r2, r3, r4, r5, r6, r7, r8)) :
    Calls Try.prog 20 #[.agg #[.bool a0_0, .slice A0_1 l0_1.length c0_1, .string a0_2], .int .i64 a1, .int .i64 a2, .int .i64 a3, .bool a4, .agg #[.int .i64 a5_0, .int .i64 a5_1, .int .i64 a5_2, .int .i64 a5_3, .int .i64 a5_4, .int .i64 a5_5, .bool a5_6]] w
      fun e w' => e = .returned (.tuple #[.agg #[.int .i64 r1, .int .i64 r2, .int .i64 r3, .int .i64 r4, .int .i64 r5, .int .i64 r6, .bool r7], .int .i64 r8]) ∧ Below w.heap.size w w' := by
  have hu29 := Try.underlying29
  have hu54 := Try.underlying54
  have E0 := Aside0.mk (EnvR.mk (X := []) (fun b hb => by cases hb) hr0_1 (Below.refl _ _))
  obtain ⟨e, hV, h1⟩ := Option.bind_eq_some_iff.mp h
  have HV := Aside0.mk hV
  have HH := Aside0.mk h1
  clear h hV h1 hr0_1
  go_enter Try.func20, Try.ntmps20
  go_upto_region 2 with (first | ((with_reducible refine gate_dst (N := 6) rfl ?_); refine box_event ?hg (N := 6) ?hd (cs := #[.bool a0_0, .slice A0_1 l0_1.length c0_1, .string a0_2]) (t := 54) ?hr ?_; (case hd => rfl); (case hg => rfl); (case hr => first | (go_simp; done) | (go_simp; rfl)); intro gB hg w1 hbox hb; have E1 := Aside0.mk (E0.out.box hb hg hbox); clear hg hbox hb E0) | ((with_reducible refine gate_dst (N := 11) rfl ?_); refine box_event ?hg (N := 11) ?hd (cs := #[.int .i64 a5_0, .int .i64 a5_1, .int .i64 a5_2, .int .i64 a5_3, .int .i64 a5_4, .int .i64 a5_5, .bool a5_6]) (t := 29) ?hr ?_; (case hd => rfl); (case hg => rfl); (case hr => first | (go_simp; done) | (go_simp; rfl)); intro gD hg w2 hbox hb; have E2 := Aside0.mk (E1.out.box hb hg hbox); clear hg hbox hb E1) | ((with_reducible refine gate_dst (N := 12) rfl ?_); refine box_event ?hg (N := 12) ?hd (cs := #[.int .i64 0, .int .i64 0, .int .i64 0, .int .i64 0, .int .i64 0, .int .i64 0, .bool false]) (t := 29) ?hr ?_; (case hd => rfl); (case hg => rfl); (case hr => first | (go_simp; done) | (go_simp; rfl)); intro gS hg w3 hbox hb; have E3 := Aside0.mk (E2.out.box hb hg hbox); clear hg hbox hb E2))
  go_cut [15] (fun v15 wc => ∃ g, v15 = .pointer (some ⟨g, 0, none⟩) ∧ Aside0 (EnvS w wc g gS #[.int .i64 a1, .int .i64 (valW l0_1 82 a5_1), .int .i64 (valW l0_1 90 a5_2), .int .i64 (valW l0_1 81 a5_3), .int .i64 (valW l0_1 70 a2), .int .i64 a3, .bool a4] #[.int .i64 0, .int .i64 0, .int .i64 0, .int .i64 0, .int .i64 0, .int .i64 0, .bool false]))
  case first =>
    have hE := E3.out.drew
    have hE0 := E3.out
    obtain ⟨d1, d2, d3⟩ := hE0.held (.tail _ (.head _))
    have dl := hE0.lt (.tail _ (.head _))
    dsimp only at dl
    have dn := Nat.ne_of_lt dl
    have dn' := Nat.ne_of_gt dl
    go_region_held3 (fun w' => w'.cell? ⟨gD, 1, none⟩ = some (.int .i64 a5_1) ∧ w'.cell? ⟨gD, 2, none⟩ = some (.int .i64 a5_2) ∧ w'.cell? ⟨gD, 3, none⟩ = some (.int .i64 a5_3))
      (go_keep)
      (first | (go_at_call 30; (with_reducible refine (EnvR.value_alloc hE (skip := a0_0) (c := c0_1) (cm := a0_2) ?hm _ _ _ _).mono ?_); (case hm => exact (.tail _ (.tail _ (.head _)))); rintro e_ w_ ⟨rfl, hE', hN⟩; have hn_ := hN _ (.tail _ (.head _)); dsimp only at hn_; obtain ⟨n1_, n2_⟩ := hn_; have hs_ := (hN _ (.head _)).1; dsimp only at hs_; have HNS := Aside0.mk hs_; clear hN hE hs_; have hE := hE'; clear hE'; have hd_ := EnvR.held hE (.tail _ (.tail _ (.head _))); obtain ⟨d1, d2, d3⟩ := hd_; have dl := EnvR.lt hE (.tail _ (.tail _ (.head _))); dsimp only at dl; have dn := Nat.ne_of_lt dl; have dn' := Nat.ne_of_gt dl; have hz_ := EnvR.zeros hE; obtain ⟨z0, z1, z2, z3, z4, z5, z6, f0, f1, f2, f3, f4, f5, f6⟩ := hz_) | (go_at_call 30; (with_reducible refine (EnvR.value_allocD hE0 (skip := a0_0) (c := c0_1) (cm := a0_2) ?hm _ _ _ _).mono ?_); (case hm => exact (.tail _ (.tail _ (.head _)))); rintro e_ w_ ⟨rfl, hE', hN⟩; have hn_ := hN _ (.tail _ (.head _)); dsimp only at hn_; obtain ⟨n1_, n2_⟩ := hn_; have hs_ := (hN _ (.head _)).1; dsimp only at hs_; have HNS := Aside0.mk hs_; clear hN hE hs_; have hE := hE'; clear hE'; have hd_ := EnvR.held hE (.tail _ (.tail _ (.head _))); obtain ⟨d1, d2, d3⟩ := hd_; have dl := EnvR.lt hE (.tail _ (.tail _ (.head _))); dsimp only at dl; have dn := Nat.ne_of_lt dl; have dn' := Nat.ne_of_gt dl; have hz_ := EnvR.zeros hE; obtain ⟨z0, z1, z2, z3, z4, z5, z6, f0, f1, f2, f3, f4, f5, f6⟩ := hz_) | (go_at_call 30; (with_reducible refine (EnvR.value hE (skip := a0_0) (c := c0_1) (cm := a0_2) ?hm _ _).mono ?_); (case hm => exact (.tail _ (.tail _ (.head _)))); rintro e_ w_ ⟨rfl, hE'⟩; clear hE; have hE := hE'; clear hE'; have hd_ := EnvR.held hE (.tail _ (.head _)); obtain ⟨d1, d2, d3⟩ := hd_; have dl := EnvR.lt hE (.tail _ (.head _)); dsimp only at dl; have dn := Nat.ne_of_lt dl; have dn' := Nat.ne_of_gt dl) | (go_at_call 30; (with_reducible refine (EnvR.value hE (skip := a0_0) (c := c0_1) (cm := a0_2) ?hm _ _).mono ?_); (case hm => exact (.tail _ (.tail _ (.tail _ (.head _))))); rintro e_ w_ ⟨rfl, hE'⟩; clear hE; have hE := hE'; clear hE'; have hd_ := EnvR.held hE (.tail _ (.tail _ (.head _))); obtain ⟨d1, d2, d3⟩ := hd_; have dl := EnvR.lt hE (.tail _ (.tail _ (.head _))); dsimp only at dl; have dn := Nat.ne_of_lt dl; have dn' := Nat.ne_of_gt dl; have hz_ := EnvR.zeros hE; obtain ⟨z0, z1, z2, z3, z4, z5, z6, f0, f1, f2, f3, f4, f5, f6⟩ := hz_))
    all_goals (go_wp2_with fail)
    all_goals go_meet
    all_goals (case rel => first | (have hF := EnvR.fill hE (List.Mem.head _) HNS.out a1 (valW l0_1 82 a5_1) (valW l0_1 90 a5_2) (valW l0_1 81 a5_3) (valW l0_1 70 a2) a3 a4; with_reducible exact ⟨_, rfl, ⟨hF⟩⟩) | (have hF := EnvR.fresh hE (List.Mem.head _) #[.int .i64 a1, .int .i64 (valW l0_1 82 a5_1), .int .i64 (valW l0_1 90 a5_2), .int .i64 (valW l0_1 81 a5_3), .int .i64 (valW l0_1 70 a2), .int .i64 a3, .bool a4]; with_reducible exact ⟨_, rfl, ⟨hF⟩⟩))
  case rest =>
    clear E3
    obtain ⟨g, rfl, E4⟩ := hcut
    have h0 : wc.cell? ⟨g, 0, none⟩ = some (.int .i64 a1) := (blk_cell E4.out.g 0).trans rfl
    have h1 : wc.cell? ⟨g, 1, none⟩ = some (.int .i64 (valW l0_1 82 a5_1)) := (blk_cell E4.out.g 1).trans rfl
    have h2 : wc.cell? ⟨g, 2, none⟩ = some (.int .i64 (valW l0_1 90 a5_2)) := (blk_cell E4.out.g 2).trans rfl
    have h3 : wc.cell? ⟨g, 3, none⟩ = some (.int .i64 (valW l0_1 81 a5_3)) := (blk_cell E4.out.g 3).trans rfl
    have h4 : wc.cell? ⟨g, 4, none⟩ = some (.int .i64 (valW l0_1 70 a2)) := (blk_cell E4.out.g 4).trans rfl
    have h5 : wc.cell? ⟨g, 5, none⟩ = some (.int .i64 a3) := (blk_cell E4.out.g 5).trans rfl
    have h6 : wc.cell? ⟨g, 6, none⟩ = some (.bool a4) := (blk_cell E4.out.g 6).trans rfl
    have h := HH.out
    by_cases he : e = 0
    · rw [if_pos he] at h
      simp only [Option.some.injEq, Prod.mk.injEq] at h
      obtain ⟨rfl, rfl, rfl, rfl, rfl, rfl, rfl, rfl⟩ := h
      have he0 : (e == 0) = true := beq_iff_eq.mpr he
      have he1 : (e != 0) = false := bne_eq_false_iff_eq.mpr he
      go_wp2_with (first | ((with_reducible refine gate_callee (f := 12) rfl ?_); refine goesL_ (some 38) rfl rfl Try.func12 (by kernel_rfl) rfl #[.agg #[.int .i64 a1, .int .i64 (valW l0_1 82 a5_1), .int .i64 (valW l0_1 90 a5_2), .int .i64 (valW l0_1 81 a5_3), .int .i64 (valW l0_1 70 a2), .int .i64 a3, .bool a4]] rfl (by (try simp only [List.map_toArray, List.map_cons, List.map_nil]); first | done | rfl) ?_; (with_reducible refine (cycle_Valid.calls k a1 (valW l0_1 82 a5_1) (valW l0_1 90 a5_2) (valW l0_1 81 a5_3) (valW l0_1 70 a2) a3 a4 e _ HV.out).mono ?_); rintro e5 w5 ⟨rfl, hb⟩; refine ⟨_, rfl, ?_⟩; have E5 := Aside0.mk (E4.out.step hb); clear hb h0 h1 h2 h3 h4 h5 h6; have h0 : w5.cell? ⟨g, 0, none⟩ = some (.int .i64 a1) := (blk_cell E5.out.g 0).trans rfl; have h1 : w5.cell? ⟨g, 1, none⟩ = some (.int .i64 (valW l0_1 82 a5_1)) := (blk_cell E5.out.g 1).trans rfl; have h2 : w5.cell? ⟨g, 2, none⟩ = some (.int .i64 (valW l0_1 90 a5_2)) := (blk_cell E5.out.g 2).trans rfl; have h3 : w5.cell? ⟨g, 3, none⟩ = some (.int .i64 (valW l0_1 81 a5_3)) := (blk_cell E5.out.g 3).trans rfl; have h4 : w5.cell? ⟨g, 4, none⟩ = some (.int .i64 (valW l0_1 70 a2)) := (blk_cell E5.out.g 4).trans rfl; have h5 : w5.cell? ⟨g, 5, none⟩ = some (.int .i64 a3) := (blk_cell E5.out.g 5).trans rfl; have h6 : w5.cell? ⟨g, 6, none⟩ = some (.bool a4) := (blk_cell E5.out.g 6).trans rfl; have s0 : w5.cell? ⟨gS, 0, none⟩ = some (.int .i64 0) := (blk_cell E5.out.s 0).trans rfl; have s1 : w5.cell? ⟨gS, 1, none⟩ = some (.int .i64 0) := (blk_cell E5.out.s 1).trans rfl; have s2 : w5.cell? ⟨gS, 2, none⟩ = some (.int .i64 0) := (blk_cell E5.out.s 2).trans rfl; have s3 : w5.cell? ⟨gS, 3, none⟩ = some (.int .i64 0) := (blk_cell E5.out.s 3).trans rfl; have s4 : w5.cell? ⟨gS, 4, none⟩ = some (.int .i64 0) := (blk_cell E5.out.s 4).trans rfl; have s5 : w5.cell? ⟨gS, 5, none⟩ = some (.int .i64 0) := (blk_cell E5.out.s 5).trans rfl; have s6 : w5.cell? ⟨gS, 6, none⟩ = some (.bool false) := (blk_cell E5.out.s 6).trans rfl; have f0 := blk_frozen E5.out.s 0; have f1 := blk_frozen E5.out.s 1; have f2 := blk_frozen E5.out.s 2; have f3 := blk_frozen E5.out.s 3; have f4 := blk_frozen E5.out.s 4; have f5 := blk_frozen E5.out.s 5; have f6 := blk_frozen E5.out.s 6))
      refine bodyPost_ret (results_ct rfl _ _ gS 29 #[.int .i64 a1, .int .i64 (valW l0_1 82 a5_1), .int .i64 (valW l0_1 90 a5_2), .int .i64 (valW l0_1 81 a5_3), .int .i64 (valW l0_1 70 a2), .int .i64 a3, .bool a4] (0, 0) _ rfl (blk_put (blk_put (blk_put (blk_put (blk_put (blk_put (blk_put E5.out.s 0 _ rfl) 1 _ rfl) 2 _ rfl) 3 _ rfl) 4 _ rfl) 5 _ rfl) 6 _ rfl) Try.underlying29 rfl (by kernel_rfl)) rfl ?_
      exact ⟨rfl, below_set (below_set (below_set (below_set (below_set (below_set (below_set E5.out.b E5.out.l) E5.out.l) E5.out.l) E5.out.l) E5.out.l) E5.out.l) E5.out.l⟩
    · rw [if_neg he] at h
      simp only [Option.some.injEq, Prod.mk.injEq] at h
      obtain ⟨rfl, rfl, rfl, rfl, rfl, rfl, rfl, rfl⟩ := h
      have he0 : (e == 0) = false := beq_eq_false_iff_ne.mpr he
      have he1 : (e != 0) = true := bne_iff_ne.mpr he
      go_wp2_with (first | ((with_reducible refine gate_callee (f := 12) rfl ?_); refine goesL_ (some 38) rfl rfl Try.func12 (by kernel_rfl) rfl #[.agg #[.int .i64 a1, .int .i64 (valW l0_1 82 a5_1), .int .i64 (valW l0_1 90 a5_2), .int .i64 (valW l0_1 81 a5_3), .int .i64 (valW l0_1 70 a2), .int .i64 a3, .bool a4]] rfl (by (try simp only [List.map_toArray, List.map_cons, List.map_nil]); first | done | rfl) ?_; (with_reducible refine (cycle_Valid.calls k a1 (valW l0_1 82 a5_1) (valW l0_1 90 a5_2) (valW l0_1 81 a5_3) (valW l0_1 70 a2) a3 a4 e _ HV.out).mono ?_); rintro e5 w5 ⟨rfl, hb⟩; refine ⟨_, rfl, ?_⟩; have E5 := Aside0.mk (E4.out.step hb); clear hb h0 h1 h2 h3 h4 h5 h6; have h0 : w5.cell? ⟨g, 0, none⟩ = some (.int .i64 a1) := (blk_cell E5.out.g 0).trans rfl; have h1 : w5.cell? ⟨g, 1, none⟩ = some (.int .i64 (valW l0_1 82 a5_1)) := (blk_cell E5.out.g 1).trans rfl; have h2 : w5.cell? ⟨g, 2, none⟩ = some (.int .i64 (valW l0_1 90 a5_2)) := (blk_cell E5.out.g 2).trans rfl; have h3 : w5.cell? ⟨g, 3, none⟩ = some (.int .i64 (valW l0_1 81 a5_3)) := (blk_cell E5.out.g 3).trans rfl; have h4 : w5.cell? ⟨g, 4, none⟩ = some (.int .i64 (valW l0_1 70 a2)) := (blk_cell E5.out.g 4).trans rfl; have h5 : w5.cell? ⟨g, 5, none⟩ = some (.int .i64 a3) := (blk_cell E5.out.g 5).trans rfl; have h6 : w5.cell? ⟨g, 6, none⟩ = some (.bool a4) := (blk_cell E5.out.g 6).trans rfl; have s0 : w5.cell? ⟨gS, 0, none⟩ = some (.int .i64 0) := (blk_cell E5.out.s 0).trans rfl; have s1 : w5.cell? ⟨gS, 1, none⟩ = some (.int .i64 0) := (blk_cell E5.out.s 1).trans rfl; have s2 : w5.cell? ⟨gS, 2, none⟩ = some (.int .i64 0) := (blk_cell E5.out.s 2).trans rfl; have s3 : w5.cell? ⟨gS, 3, none⟩ = some (.int .i64 0) := (blk_cell E5.out.s 3).trans rfl; have s4 : w5.cell? ⟨gS, 4, none⟩ = some (.int .i64 0) := (blk_cell E5.out.s 4).trans rfl; have s5 : w5.cell? ⟨gS, 5, none⟩ = some (.int .i64 0) := (blk_cell E5.out.s 5).trans rfl; have s6 : w5.cell? ⟨gS, 6, none⟩ = some (.bool false) := (blk_cell E5.out.s 6).trans rfl; have f0 := blk_frozen E5.out.s 0; have f1 := blk_frozen E5.out.s 1; have f2 := blk_frozen E5.out.s 2; have f3 := blk_frozen E5.out.s 3; have f4 := blk_frozen E5.out.s 4; have f5 := blk_frozen E5.out.s 5; have f6 := blk_frozen E5.out.s 6))
      refine bodyPost_ret (results_ct rfl _ _ gS 29 #[.int .i64 0, .int .i64 0, .int .i64 0, .int .i64 0, .int .i64 0, .int .i64 0, .bool false] (0, 0) _ rfl (blk_put (blk_put (blk_put (blk_put (blk_put (blk_put (blk_put E5.out.s 0 _ rfl) 1 _ rfl) 2 _ rfl) 3 _ rfl) 4 _ rfl) 5 _ rfl) 6 _ rfl) Try.underlying29 rfl (by kernel_rfl)) rfl ?_
      exact ⟨rfl, below_set (below_set (below_set (below_set (below_set (below_set (below_set E5.out.b E5.out.l) E5.out.l) E5.out.l) E5.out.l) E5.out.l) E5.out.l) E5.out.l⟩
end Go.Proofs.Ytmaochcdjmnffaa.P
