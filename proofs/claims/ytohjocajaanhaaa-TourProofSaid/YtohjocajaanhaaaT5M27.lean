import Derived.Test.YtohjocajaanhaaaT5M21
/- Least spanning trees: two runs that always add the cheapest edge come to the same sum, and no spanning tree is lighter. Plain numbers and lists. -/
namespace Go.Proofs.Ytohjocajaanhaaa.Mst
set_option linter.unusedVariables false
def wt (c : Nat → Nat → Int) : List (Nat × Nat) → Int
  | [] => 0
  | e :: E => c e.1 e.2 + wt c E
theorem wt_erase (c : Nat → Nat → Int) (e : Nat × Nat) (E : List (Nat × Nat)) (h : e ∈ E) : wt c E = c e.1 e.2 + wt c (E.erase e) := by
  induction E with
  | nil => cases h
  | cons f E ih =>
    rw [List.erase_cons]
    by_cases hf : f = e
    · subst hf; simp [wt]
    · rw [if_neg (by simpa using hf)]
      have := ih ((List.mem_cons.1 h).resolve_left (fun h => hf h.symm))
      simp only [wt]; omega
inductive Conn (E : List (Nat × Nat)) (S : Nat → Prop) : Nat → Prop
  | base {x : Nat} : S x → Conn E S x
  | step {a b : Nat} : Conn E S a → ((a, b) ∈ E ∨ (b, a) ∈ E) → Conn E S b
inductive Out (E : List (Nat × Nat)) (S : Nat → Prop) (b : Nat) : Nat → Prop
  | base : ¬ S b → Out E S b b
  | step {x y : Nat} : Out E S b x → ((x, y) ∈ E ∨ (y, x) ∈ E) → ¬ S y → Out E S b y
theorem Out.not {E : List (Nat × Nat)} {S : Nat → Prop} {b x : Nat} (h : Out E S b x) : ¬ S x := by
  cases h with
  | base h => exact h
  | step _ _ h => exact h
theorem exit {E : List (Nat × Nat)} {S : Nat → Prop} {x : Nat} (h : Conn E S x) : ¬ S x → ∃ a b, S a ∧ ¬ S b ∧ ((a, b) ∈ E ∨ (b, a) ∈ E) ∧ Out E S b x := by
  induction h with
  | base h => intro hn; exact absurd h hn
  | @step a b hc he ih =>
    intro hn
    by_cases ha : S a
    · exact ⟨a, b, ha, hn, he, .base hn⟩
    · obtain ⟨p, q, h1, h2, h3, h4⟩ := ih ha
      exact ⟨p, q, h1, h2, h3, .step h4 he hn⟩
theorem Out.back {E : List (Nat × Nat)} {S : Nat → Prop} {b x : Nat} (h : Out E S b x) (e : Nat × Nat) (he : S e.1 ∨ S e.2) (T : Nat → Prop) : Conn (E.erase e) T x → Conn (E.erase e) T b := by
  induction h with
  | base _ => exact id
  | @step x y hx hxy hy ih =>
    intro hc
    refine ih (.step hc ?_)
    have hnx := hx.not
    rcases hxy with h | h
    · refine .inr ((List.mem_erase_of_ne ?_).2 h)
      rintro rfl
      exact he.elim hnx hy
    · refine .inl ((List.mem_erase_of_ne ?_).2 h)
      rintro rfl
      exact he.elim hy hnx
/-- A run that always adds a cheapest edge out of S: its number of steps and its sum. -/
inductive Run (c : Nat → Nat → Int) (n : Nat) : (Nat → Prop) → Nat → Int → Prop
  | nil {S : Nat → Prop} : (∀ x, x < n → S x) → Run c n S 0 0
  | cons {S : Nat → Prop} {u v k : Nat} {t : Int} : S u → u < n → ¬ S v → v < n → (∀ a b, S a → a < n → ¬ S b → b < n → c u v ≤ c a b) → Run c n (fun x => S x ∨ x = v) k t → Run c n S (k + 1) (c u v + t)
/-- Edges that are added one after the other, each to a new number. -/
inductive Grow (n : Nat) : (Nat → Prop) → List (Nat × Nat) → Prop
  | nil {S : Nat → Prop} : (∀ x, x < n → S x) → Grow n S []
  | cons {S : Nat → Prop} {u v : Nat} {E : List (Nat × Nat)} : S u → u < n → ¬ S v → v < n → Grow n (fun x => S x ∨ x = v) E → Grow n S ((u, v) :: E)
theorem conn_cons {n : Nat} {E : List (Nat × Nat)} {S : Nat → Prop} {u v x : Nat} (hu : S u) (h : Conn E (fun x => S x ∨ x = v) x) : Conn ((u, v) :: E) S x := by
  induction h with
  | base h =>
    rcases h with h | rfl
    · exact .base h
    · exact .step (.base hu) (.inl List.mem_cons_self)
  | step _ he ih => exact .step ih (he.elim (fun h => .inl (List.mem_cons_of_mem _ h)) (fun h => .inr (List.mem_cons_of_mem _ h)))
theorem Grow.conn {n : Nat} {S : Nat → Prop} {E : List (Nat × Nat)} (h : Grow n S E) : ∀ x, x < n → Conn E S x := by
  induction h with
  | nil h => intro x hx; exact .base (h x hx)
  | cons hu _ _ _ _ ih => intro x hx; exact conn_cons (n := n) hu (ih x hx)
theorem Grow.lt {n : Nat} {S : Nat → Prop} {E : List (Nat × Nat)} (h : Grow n S E) : ∀ e ∈ E, e.1 < n ∧ e.2 < n := by
  induction h with
  | nil h => intro e he; cases he
  | cons hu hun _ hv _ ih =>
    intro e he
    rcases List.mem_cons.1 he with rfl | he
    · exact ⟨hun, hv⟩
    · exact ih e he
theorem Run.grow {c : Nat → Nat → Int} {n : Nat} {S : Nat → Prop} {k : Nat} {t : Int} (h : Run c n S k t) : ∃ E, Grow n S E ∧ E.length = k ∧ wt c E = t := by
  induction h with
  | nil h => exact ⟨[], .nil h, rfl, rfl⟩
  | @cons S u v k t hu hun hv hvn hm _ ih =>
    obtain ⟨E, h1, h2, h3⟩ := ih
    exact ⟨(u, v) :: E, .cons hu hun hv hvn h1, by simp [h2], by simp [wt, h3]⟩
theorem Run.least {c : Nat → Nat → Int} (sym : ∀ a b, c a b = c b a) {n : Nat} {S : Nat → Prop} {k : Nat} {t : Int} (h : Run c n S k t) :
    ∀ E, (∀ e ∈ E, e.1 < n ∧ e.2 < n) → (∀ x, x < n → Conn E S x) → E.length = k → t ≤ wt c E := by
  induction h with
  | nil h => intro E _ _ hl; rw [List.eq_nil_of_length_eq_zero hl]; exact Int.le_refl _
  | @cons S u v k t hu hun hv hvn hm _ ih =>
    intro E hlt hc hl
    obtain ⟨a, b, ha, hb, hab, ho⟩ := exit (hc v hvn) hv
    have main : ∀ e : Nat × Nat, e ∈ E → (e = (a, b) ∨ e = (b, a)) → c u v + t ≤ wt c E := by
      intro e he hor
      have hS : S e.1 ∨ S e.2 := by rcases hor with rfl | rfl; exact .inl ha; exact .inr ha
      have hcost : c u v ≤ c e.1 e.2 := by
        rcases hor with rfl | rfl
        · exact hm a b ha (hlt _ he).1 hb (hlt _ he).2
        · have := hm a b ha (hlt _ he).2 hb (hlt _ he).1
          rw [sym a b] at this; exact this
      rw [wt_erase c e E he]
      have hob := ho.back e hS (fun x => S x ∨ x = v) (.base (.inr rfl))
      have : t ≤ wt c (E.erase e) := by
        refine ih (E.erase e) (fun f hf => hlt f (List.mem_of_mem_erase hf)) (fun x hx => ?_) (by rw [List.length_erase_of_mem he]; omega)
        have := hc x hx
        clear hx
        induction this with
        | base h => exact .base (.inl h)
        | @step p q hp hpq ihp =>
          by_cases h1 : (p, q) = e ∨ (q, p) = e
          · have hq : q = a ∨ q = b := by
              rcases h1 with h1 | h1 <;> rcases hor with h2 | h2 <;> rw [h2] at h1 <;> injection h1 with h3 h4 <;> first | exact .inl h3 | exact .inl h4 | exact .inr h3 | exact .inr h4
            rcases hq with rfl | rfl
            · exact .base (.inl ha)
            · exact hob
          · have h2 := not_or.1 h1
            exact .step ihp (hpq.elim (fun h => .inl ((List.mem_erase_of_ne h2.1).2 h)) (fun h => .inr ((List.mem_erase_of_ne h2.2).2 h)))
      omega
    rcases hab with h | h
    · exact main _ h (.inl rfl)
    · exact main _ h (.inr rfl)
/-- No growth is lighter than a run. -/
theorem Run.le {c : Nat → Nat → Int} (sym : ∀ a b, c a b = c b a) {n : Nat} {S : Nat → Prop} {k : Nat} {t : Int} (h : Run c n S k t) {E : List (Nat × Nat)} (hg : Grow n S E) (hl : E.length = k) : t ≤ wt c E :=
  h.least sym E hg.lt hg.conn hl
/-- Two runs come to one sum. -/
theorem Run.same {c : Nat → Nat → Int} (sym : ∀ a b, c a b = c b a) {n : Nat} {S : Nat → Prop} {k : Nat} {t u : Int} (h : Run c n S k t) (g : Run c n S k u) : t = u := by
  obtain ⟨E, h1, h2, h3⟩ := h.grow
  obtain ⟨F, g1, g2, g3⟩ := g.grow
  have a := h.le sym g1 g2
  have b := g.le sym h1 h2
  omega
end Go.Proofs.Ytohjocajaanhaaa.Mst

-- PRINTED by print.py (a twelfth state) out of the translation. Not trusted: Lean checks it.

namespace Go.Proofs.Ytohjocajaanhaaa.P
open Go.RowKit Go.Proofs.YtohjocajaanhaaaW.PrintWords Go.Proofs.YtohjocajaanhaaaW.PrintLast Go.Proofs.YtohjocajaanhaaaW.PrintMore
attribute [local go_sem] max2_int min2_int max_two min_two max_three min_three max_four min_four   -- for this text's walks alone
set_option linter.unusedVariables false
set_option linter.unusedSimpArgs false

/-! ### swarfref38_has: function 35 -/
def swarfref38_has.l0 : Nat → List Int → Int → Int → Option (Bool)
  | 0, _, _, _ => none
  | k + 1, x0, x1, x5 => if x5 < (x0.length : Int) then (if 0 ≤ x5 then (if (rd x0 x5) = x1 then (some true) else (swarfref38_has.l0 k x0 x1 (wrap64 (x5 + 1)))) else (none)) else (some false)
def swarfref38_has.f (k : Nat) (l0 : List Int) (a1 : Int) : Option (Bool) := swarfref38_has.l0 k l0 a1 0
theorem swarfref38_has.mono_l : ∀ k, (∀ y0 y1 y2, LeO (swarfref38_has.l0 k y0 y1 y2) (swarfref38_has.l0 (k + 1) y0 y1 y2))
  | 0 => fun _ _ _ r h => by simp [swarfref38_has.l0] at h
  | k + 1 => by
    have ih0 := swarfref38_has.mono_l k
    · intro y0 y1 y2
      unfold swarfref38_has.l0
      repeat' first
      | (with_reducible exact ih0 _ _ _)
      | (with_reducible exact LeO.refl _)
      | (with_reducible exact LeO.none _)
      | (with_reducible refine LeO.ite ?_ ?_)
      | (with_reducible refine LeO.bind ?_ (fun _ => ?_))
      | exact ih0 _ _ _
      | exact LeO.none _
      | refine LeO.ite ?_ ?_
      | refine LeO.bind ?_ (fun _ => ?_)
theorem swarfref38_has.mono : ∀ a0 a1 k, LeO (swarfref38_has.f k a0 a1) (swarfref38_has.f (k + 1) a0 a1) := by
  intro a0 a1 k
  have ih0 := swarfref38_has.mono_l k
  unfold swarfref38_has.f
  repeat' first
      | (with_reducible exact ih0 _ _ _)
      | (with_reducible exact LeO.refl _)
      | (with_reducible exact LeO.none _)
      | (with_reducible refine LeO.ite ?_ ?_)
      | (with_reducible refine LeO.bind ?_ (fun _ => ?_))
      | exact ih0 _ _ _
      | exact LeO.none _
      | refine LeO.ite ?_ ?_
      | refine LeO.bind ?_ (fun _ => ?_)
set_option maxHeartbeats 8000000 in
set_option maxRecDepth 100000 in
theorem swarfref38_has.calls (k : Nat) (A0 : Option Addr) (c0 : Nat) (l0 : List Int) (a1 : Int) (r : Bool) (w : World) (hr0 : Kd.C (Kd.int .i64) w A0 l0.length l0) (hc0 : l0.length ≤ c0) (h : swarfref38_has.f k l0 a1 = some r) :
    Calls Try.prog 35 #[.slice A0 l0.length c0, .int .i64 a1] w fun e w' => e = .returned (.bool r) ∧ Drawn0 w w' := by
  have HR0 := Aside0.mk hr0
  have HC0 := Aside0.mk hc0
  clear hr0 hc0
  have H : (swarfref38_has.l0 k l0 a1 0) = some r := h
  clear h
  have H' := Aside0.mk H
  clear H
  go_enter Try.func35, Try.ntmps35
  go_wp2
  go_loopg [5] k (fun kq v5 w' => ∃ (x5_1 : Int), v5 = .int .i64 x5_1 ∧ Aside0 (swarfref38_has.l0 kq l0 a1 x5_1 = some r) ∧ Aside0 (kq ≤ k) ∧ Drawn0 w w')
  case atStart => exact ⟨(0), (by first | rfl | (simp; done) | (simp [*]; done)), H', ⟨Nat.le_refl _⟩, by repeat (first | exact Drawn0.refl _ | apply Drawn0.step)⟩
  case round =>
    clear H'
    try clear p2
    obtain ⟨x5_1, rfl, HA, HK1, ⟨m1, rfl⟩⟩ := hrel
    cases gk with
    | zero => exact absurd HA.out (by simp [swarfref38_has.l0])
    | succ k1 =>
      have H := HA.out
      clear HA
      simp only [swarfref38_has.l0] at H
      by_cases c3 : x5_1 < (l0.length : Int)
      · rw [if_pos c3] at H
        have c3b0 : decide (x5_1 < (l0.length : Int)) = true := decide_eq_true c3
        clear c3
        by_cases c4 : 0 ≤ x5_1
        · rw [if_pos c4] at H
          have c4b0 : decide (0 ≤ x5_1) = true := decide_eq_true c4
          clear c4
          by_cases c5 : (rd l0 x5_1) = a1
          · rw [if_pos c5] at H
            have c5b0 : ((rd l0 x5_1) == a1) = true := beq_iff_eq.mpr c5
            have c5b1 : ((rd l0 x5_1) != a1) = false := bne_eq_false_iff_eq.mpr c5
            clear c5
            obtain rfl := Option.some.inj H
            have p273 : 0 ≤ (x5_1 : Int) := of_decide_eq_true (by first | (with_reducible assumption) | assumption)
            have q273 : x5_1 < (l0.length : Int) := of_decide_eq_true (by first | (with_reducible assumption) | assumption)
            obtain ⟨ad273, e273, hx273_0⟩ := Kd.at_int HR0.out x5_1 p273 q273
            cases e273
            replace p273 := eq_true p273
            replace q273 := eq_true q273
            go_wp2
            go_ret
            exact ⟨by first | rfl | (simp; done) | (simp [*]; done), by repeat (first | exact Drawn0.refl _ | apply Drawn0.step)⟩
          · rw [if_neg c5] at H
            have c5b0 : ((rd l0 x5_1) == a1) = false := beq_eq_false_iff_ne.mpr c5
            have c5b1 : ((rd l0 x5_1) != a1) = true := bne_iff_ne.mpr c5
            have H' := Aside0.mk H
            clear H
            have p273 : 0 ≤ (x5_1 : Int) := of_decide_eq_true (by first | (with_reducible assumption) | assumption)
            have q273 : x5_1 < (l0.length : Int) := of_decide_eq_true (by first | (with_reducible assumption) | assumption)
            obtain ⟨ad273, e273, hx273_0⟩ := Kd.at_int HR0.out x5_1 p273 q273
            cases e273
            replace p273 := eq_true p273
            replace q273 := eq_true q273
            go_wp2
            go_roundg k1
            case measure => have := HK1.out; omega
            case rel => exact ⟨(wrap64 (x5_1 + 1)), (by first | rfl | (simp; done) | (simp [*]; done)), H', ⟨by have := HK1.out; omega⟩, by repeat (first | exact Drawn0.refl _ | apply Drawn0.step)⟩
        · rw [if_neg c4] at H
          exact absurd H (by simp)
      · rw [if_neg c3] at H
        have c3b0 : decide (x5_1 < (l0.length : Int)) = false := decide_eq_false c3
        clear c3
        obtain rfl := Option.some.inj H
        go_wp2
        go_ret
        exact ⟨by first | rfl | (simp; done) | (simp [*]; done), by repeat (first | exact Drawn0.refl _ | apply Drawn0.step)⟩

end Go.Proofs.Ytohjocajaanhaaa.P
