/- The statement CycleParts, over plain numbers and lists: the moves of a list of positions are those of its two parts, one after the other. -/
import Derived.Test.YtmaochcdjmnffaaA1
import Derived.Test.YtmaochcdjmnffaaB1
import Derived.Test.YtmaochcdjmnffaaPx40
namespace Go.Proofs.Ytmaochcdjmnffaa.B
open Go.RowKit Go.Proofs.Ytmaochcdjmnffaa.P Go.Proofs.YtmaochcdjmnffaaW.PrintWords Go.Proofs.YtmaochcdjmnffaaW.PrintLast Go.Proofs.YtmaochcdjmnffaaW.PrintMore
set_option linter.unusedVariables false
def pre (l : List S45) (s : St) : St := (s.1, l ++ s.2)
theorem stTo_pre (l : List S45) (s : St) (kd : Int) (q : S36) (rt : Int) : stTo (pre l s) kd q rt = pre l (stTo s kd q rt) := by
  unfold stTo pre
  dsimp only
  split
  · rfl
  · simp
theorem drill_pre (l : List S45) (r f : Int) (g : S43) (s : St) (z : Int) : stDrill r f g (pre l s) z = pre l (stDrill r f g s z) := by unfold stDrill; rw [stTo_pre, stTo_pre]
theorem low_pre (l : List S45) (r : Int) (s : St) : stLow r (pre l s) = pre l (stLow r s) := by
  unfold stLow
  show (if s.1.f2 < r then stTo (pre l s) 1 ⟨s.1.f0, s.1.f1, r⟩ 0 else pre l s) = _
  split
  · rw [stTo_pre]
  · rfl
theorem top_pre (l : List S45) (r : Int) (s : St) (g : S43) : stTop r (pre l s) g = pre l (stTop r s g) := by
  unfold stTop
  rw [low_pre, stTo_pre]
  rw [show (pre l (stLow r s)).1.f2 = (stLow r s).1.f2 from rfl, stTo_pre]
theorem fold_pre (l : List S45) (r f : Int) (g : S43) (d : List Int) : ∀ s : St, d.foldl (stDrill r f g) (pre l s) = pre l (d.foldl (stDrill r f g) s) := by
  induction d with
  | nil => intro s; rfl
  | cons z d ih => intro s; simp only [List.foldl_cons]; rw [drill_pre, ih]
theorem high_pre (l : List S45) (i : Int) (h : Bool) (g : S43) (s : St) : stHigh i h g (pre l s) = pre l (stHigh i h g s) := by
  unfold stHigh
  split
  · rw [stTo_pre]
  · rfl
theorem one_pre (l : List S45) (r f i : Int) (h : Bool) (d : List Int) (s : St) (g : S43) : stOne r f i h d (pre l s) g = pre l (stOne r f i h d s g) := by
  unfold stOne
  rw [top_pre, fold_pre, high_pre]
theorem run_pre (l : List S45) (r f i : Int) (h : Bool) (d : List Int) (gs : List S43) : ∀ s : St, gs.foldl (stOne r f i h d) (pre l s) = pre l (gs.foldl (stOne r f i h d) s) := by
  induction gs with
  | nil => intro s; rfl
  | cons g gs ih => intro s; simp only [List.foldl_cons]; rw [one_pre, ih]
/-! ### Lengths, positions -/
theorem one_len (r f i : Int) (h : Bool) (d : List Int) (s : St) (g : S43) : s.2.length ≤ (stOne r f i h d s g).2.length := by
  have := one_pre s.2 r f i h d (s.1, []) g
  have e : pre s.2 (s.1, []) = s := by unfold pre; simp
  rw [e] at this
  rw [this]
  simp [pre]
theorem run_len (r f i : Int) (h : Bool) (d : List Int) (gs : List S43) : ∀ s : St, s.2.length ≤ (gs.foldl (stOne r f i h d) s).2.length := by
  induction gs with
  | nil => intro s; exact Nat.le_refl _
  | cons g gs ih => intro s; exact Nat.le_trans (one_len r f i h d s g) (ih _)
theorem all_ok (r f i : Int) (h : Bool) (d : List Int) (gs : List S43) : ∀ s : St, s.2.length ≤ 20000 → (stAll r f i h d gs s).2 = 0 → stAll r f i h d gs s = ((gs.foldl (stOne r f i h d) s).2, 0) ∧ (gs.foldl (stOne r f i h d) s).2.length ≤ 20000 := by
  induction gs with
  | nil => intro s hs _; exact ⟨rfl, hs⟩
  | cons g gs ih =>
    intro s hs h0
    unfold stAll at h0 ⊢
    split at h0
    · simp at h0
    · rename_i hl
      rw [if_neg hl]
      exact ih _ (by omega) h0
theorem all_of (r f i : Int) (h : Bool) (d : List Int) (gs : List S43) : ∀ s : St, (gs.foldl (stOne r f i h d) s).2.length ≤ 20000 → stAll r f i h d gs s = ((gs.foldl (stOne r f i h d) s).2, 0) := by
  induction gs with
  | nil => intro s _; rfl
  | cons g gs ih =>
    intro s hs
    have := run_len r f i h d gs (stOne r f i h d s g)
    simp only [List.foldl_cons] at hs
    unfold stAll
    rw [if_neg (by omega)]
    exact ih _ hs
theorem same_eq {p q : S36} (h : same36 p q = true) : p = q := by
  unfold same36 at h
  simp only [Bool.and_eq_true, beq_iff_eq] at h
  cases p; cases q; simp_all
theorem stTo_pos (s : St) (kd : Int) (q : S36) (rt : Int) : (stTo s kd q rt).1 = q := by
  unfold stTo
  split
  · rename_i h; exact (same_eq h).symm
  · rfl
/-- A state whose place is that of its last move, or p where it has none. -/
def Led (p : S36) (s : St) : Prop := (s.2 = [] ∧ s.1 = p) ∨ ∃ l m, s.2 = l ++ [m] ∧ m.f1 = s.1
theorem led_to {p : S36} {s : St} (h : Led p s) (kd : Int) (q : S36) (rt : Int) : Led p (stTo s kd q rt) := by
  unfold stTo
  split
  · exact h
  · exact .inr ⟨s.2, _, rfl, rfl⟩
theorem led_fold {p : S36} (r f : Int) (g : S43) (d : List Int) : ∀ s : St, Led p s → Led p (d.foldl (stDrill r f g) s) := by
  induction d with
  | nil => intro s h; exact h
  | cons z d ih => intro s h; exact ih _ (led_to (led_to h _ _ _) _ _ _)
theorem led_one {p : S36} {s : St} (h : Led p s) (r f i : Int) (hh : Bool) (d : List Int) (g : S43) : Led p (stOne r f i hh d s g) := by
  have h1 : Led p (stLow r s) := by unfold stLow; split; exact led_to h _ _ _; exact h
  have h2 : Led p (stTop r s g) := led_to (led_to h1 _ _ _) _ _ _
  have h3 := led_fold r f g d _ h2
  unfold stOne stHigh
  split
  · exact led_to h3 _ _ _
  · exact h3
theorem led_run {p : S36} (r f i : Int) (hh : Bool) (d : List Int) (gs : List S43) : ∀ s : St, Led p s → Led p (gs.foldl (stOne r f i hh d) s) := by
  induction gs with
  | nil => intro s h; exact h
  | cons g gs ih => intro s h; exact ih _ (led_one h r f i hh d g)
theorem fold_pos (r f : Int) (g : S43) (d : List Int) : ∀ s : St, s.1 = ⟨g.f0, g.f1, r⟩ → (d.foldl (stDrill r f g) s).1 = ⟨g.f0, g.f1, r⟩ := by
  induction d with
  | nil => intro s h; exact h
  | cons z d ih => intro s h; exact ih _ (stTo_pos _ _ _ _)
theorem one_pos (r f i : Int) (hh : Bool) (d : List Int) (s : St) (g : S43) : (stOne r f i hh d s g).1 = ⟨g.f0, g.f1, if hh = true then i else r⟩ := by
  have h3 := fold_pos r f g d (stTop r s g) (stTo_pos _ _ _ _)
  unfold stOne stHigh
  split
  · rename_i h; rw [stTo_pos]
  · rename_i h; rw [h3]
theorem farB_of {x : Int} (h0 : -10000000 ≤ x) (h1 : x ≤ 10000000) : farB x = false := by
  unfold farB
  simp only [Bool.or_eq_false_iff, decide_eq_false_iff_not]
  omega
theorem run_near (r f i : Int) (hh : Bool) (d : List Int) (hr : farB r = false) (hi : farB i = false) (gs : List S43) : ∀ s : St, farP s.1 = false → gs.any farG = false → farP (gs.foldl (stOne r f i hh d) s).1 = false := by
  induction gs with
  | nil => intro s h _; exact h
  | cons g gs ih =>
    intro s h hg
    simp only [List.any_cons, Bool.or_eq_false_iff] at hg
    refine ih _ ?_ hg.2
    rw [one_pos]
    have h1 := hg.1
    unfold farG at h1
    simp only [Bool.or_eq_false_iff] at h1
    unfold farP
    cases hh <;> simp [h1.1, h1.2, hr, hi]
theorem same_l0 (ms : List S45) (hl : ms.length ≤ 20000) (m : Nat) : ∀ (k j : Nat), m < k → j + m = ms.length → swarfref44_Same.l0 k ms ms (j : Int) = some true := by
  induction m with
  | zero =>
    intro k j hk hj
    obtain ⟨k, rfl⟩ : ∃ j, k = j + 1 := ⟨k - 1, by omega⟩
    rw [swarfref44_Same.l0, if_neg (by omega)]
  | succ m ih =>
    intro k j hk hj
    obtain ⟨k, rfl⟩ : ∃ j, k = j + 1 := ⟨k - 1, by omega⟩
    rw [swarfref44_Same.l0, if_pos (by omega), if_pos (by omega), if_pos (by omega), if_neg (by simp), wrap_small (j + 1) (by omega) (by omega)]
    exact ih k (j + 1) (by omega) (by omega)
theorem same_self (k : Nat) (hk : 20001 ≤ k) (ms : List S45) (hl : ms.length ≤ 20000) : swarfref44_Same.f k ms ms = some true := by
  unfold swarfref44_Same.f
  rw [if_pos rfl]
  exact same_l0 ms hl ms.length k 0 (by omega) (by omega)
theorem expand_eq (k : Nat) (hk : 20000010 ≤ k) (c r z q f i : Int) (h : Bool) (x y v : Int) (gs : List S43) :
    cycle_Expand.f k c r z q f i h x y v gs = some (if vE c r z q f i = 0 then (if farP ⟨x, y, v⟩ || gs.any farG then ([], 11) else stAll r f i h (depthsOf c r z q) gs (⟨x, y, v⟩, [])) else ([], vE c r z q f i)) := by
  unfold cycle_Expand.f
  rw [(depths_eq k hk c r z q f i h).1]
  have := dE_len c r z q f i
  simp only [Option.bind_some]
  rw [if_pos (by omega)]
  unfold dE
  by_cases he : vE c r z q f i = 0
  · rw [if_pos he, if_pos he, if_pos rfl]; split <;> rfl
  · rw [if_neg he, if_neg he, if_neg he]
theorem clone_eq (gs : List S43) (h : gs.length ≤ 20) : api_Grid2.f gs = some gs := by unfold api_Grid2.f; rw [if_pos (by omega)]
theorem CycleParts (c r z q f i : Int) (h : Bool) (x y v : Int) (gs : List S43) (K : Int) (hK0 : 0 ≤ K) (hK1 : K ≤ 255) : ∃ k, swarflaw44_CycleParts.f k c r z q f i h x y v gs K = some true := by
  refine ⟨20000100, ?_⟩
  unfold swarflaw44_CycleParts.f
  rw [awake_true _ (by omega)]
  simp only [Option.bind_some, if_true]
  by_cases hl : (gs.length : Int) > 20
  · rw [if_pos hl]
  · rw [if_neg hl, clone_eq gs (by omega)]
    simp only [Option.bind_some]
    rw [expand_eq _ (by omega)]
    simp only [Option.bind_some]
    by_cases he : vE c r z q f i = 0
    · obtain ⟨⟨h1, h2, h3, h4, h5, h6⟩, h7, h8, h9, h10⟩ := vE_zero he
      rw [if_pos he]
      by_cases hf : (farP ⟨x, y, v⟩ || gs.any farG) = true
      · rw [if_pos hf, if_neg (by simp)]
      · rw [if_neg hf]
        have hf1 : farP ⟨x, y, v⟩ = false ∧ gs.any farG = false := by simpa only [Bool.or_eq_true, not_or, Bool.not_eq_true] using hf
        by_cases h0 : (stAll r f i h (depthsOf c r z q) gs (⟨x, y, v⟩, [])).2 = 0
        · rw [if_pos h0]
          obtain ⟨ea, hlen⟩ := all_ok r f i h (depthsOf c r z q) gs (⟨x, y, v⟩, []) (by simp) h0
          rw [ea]
          have w1 : wrap64 ((gs.length : Int) + 1) = (gs.length : Int) + 1 := wrap_small _ (by omega) (by omega)
          have w2 : wrap64 K = K := wrap_small _ (by omega) (by omega)
          rw [w1, w2]
          have n0 : 0 ≤ K.tmod ((gs.length : Int) + 1) := Int.tmod_nonneg _ hK0
          have n1 : K.tmod ((gs.length : Int) + 1) < (gs.length : Int) + 1 := Int.tmod_lt_of_pos _ (by omega)
          generalize hn : K.tmod ((gs.length : Int) + 1) = n at n0 n1 ⊢
          rw [if_neg (by omega), if_pos n0, if_pos (by omega)]
          have t1 : (gs.take n.toNat).any farG = false := by
            rw [List.any_eq_false] at hf1 ⊢
            exact fun a ha => hf1.2 a (List.mem_of_mem_take ha)
          have t2 : (gs.drop n.toNat).any farG = false := by
            rw [List.any_eq_false] at hf1 ⊢
            exact fun a ha => hf1.2 a (List.mem_of_mem_drop ha)
          rw [clone_eq _ (by rw [List.length_take]; omega)]
          simp only [Option.bind_some]
          rw [expand_eq _ (by omega)]
          simp only [Option.bind_some]
          rw [if_pos he, hf1.1, t1]
          have hsplit : gs.foldl (stOne r f i h (depthsOf c r z q)) (⟨x, y, v⟩, []) = (gs.drop n.toNat).foldl (stOne r f i h (depthsOf c r z q)) ((gs.take n.toNat).foldl (stOne r f i h (depthsOf c r z q)) (⟨x, y, v⟩, [])) := by
            rw [← List.foldl_append, List.take_append_drop]
          have hnear := run_near r f i h (depthsOf c r z q) (farB_of h7.1 h7.2) (farB_of h9.1 h9.2) (gs.take n.toNat) (⟨x, y, v⟩, []) hf1.1 t1
          have hled : Led ⟨x, y, v⟩ ((gs.take n.toNat).foldl (stOne r f i h (depthsOf c r z q)) (⟨x, y, v⟩, [])) := led_run r f i h (depthsOf c r z q) _ _ (.inl ⟨rfl, rfl⟩)
          have hmid := run_len r f i h (depthsOf c r z q) (gs.drop n.toNat) ((gs.take n.toNat).foldl (stOne r f i h (depthsOf c r z q)) (⟨x, y, v⟩, []))
          rw [← hsplit] at hmid
          have ha := all_of r f i h (depthsOf c r z q) (gs.take n.toNat) (⟨x, y, v⟩, []) (by omega)
          rw [if_neg (show ¬ (false || false) = true by decide), ha]
          generalize hs : (gs.take n.toNat).foldl (stOne r f i h (depthsOf c r z q)) (⟨x, y, v⟩, []) = s at hsplit hnear hled hmid ⊢
          have hpre : s = pre s.2 (s.1, []) := by unfold pre; simp
          have hb : (gs.drop n.toNat).foldl (stOne r f i h (depthsOf c r z q)) s = pre s.2 ((gs.drop n.toNat).foldl (stOne r f i h (depthsOf c r z q)) (s.1, [])) := by
            conv => lhs; rw [hpre]
            rw [run_pre]
          rw [hb] at hsplit
          have hj : swarflaw44_CycleParts.j0 20000100 gs (gs.foldl (stOne r f i h (depthsOf c r z q)) (⟨x, y, v⟩, [])).2 n s.2 0 c r z q f i h s.1.f0 s.1.f1 s.1.f2 = some true := by
            rw [show (20000100 : Nat) = 20000099 + 1 from rfl, swarflaw44_CycleParts.j0, if_pos n0, if_pos (by omega), clone_eq _ (by rw [List.length_drop]; omega)]
            simp only [Option.bind_some]
            rw [expand_eq _ (by omega)]
            simp only [Option.bind_some]
            rw [if_pos he, hnear, t2, if_neg (show ¬ (false || false) = true by decide)]
            rw [hsplit] at hlen ⊢
            have hlb : ((gs.drop n.toNat).foldl (stOne r f i h (depthsOf c r z q)) (s.1, [])).2.length + s.2.length ≤ 20000 := by
              simp only [pre, List.length_append] at hlen; omega
            have hbb := all_of r f i h (depthsOf c r z q) (gs.drop n.toNat) (s.1, []) (by omega)
            rw [hbb]
            simp only [if_true]
            unfold api_Move_24.f
            rw [if_pos (by simp [totalL]; omega)]
            simp only [Option.bind_some, List.flatten_cons, List.flatten_nil, List.append_nil]
            rw [show (pre s.2 ((gs.drop n.toNat).foldl (stOne r f i h (depthsOf c r z q)) (s.1, []))).2 = s.2 ++ ((gs.drop n.toNat).foldl (stOne r f i h (depthsOf c r z q)) (s.1, [])).2 from rfl, same_self _ (by omega) _ (by simp only [List.length_append]; omega)]
            rfl
          rcases hled with ⟨hn0, hp⟩ | ⟨l, m, hm, hp⟩
          · have hj' := hj
            rw [hn0, hp] at hj'
            dsimp only at hj'
            rw [hn0, if_neg (by simp)]
            exact hj'
          · have hlast : rd_T45 s.2 (wrap64 ((s.2.length : Int) - 1)) = m := by
              have : wrap64 ((s.2.length : Int) - 1) = ((l.length : Nat) : Int) := by rw [wrap_small _ (by omega) (by omega), hm]; simp
              rw [this, hm]
              simp [rd_T45]
            have hl1 : 0 < s.2.length := by rw [hm]; simp
            dsimp only
            rw [hlast, hp, if_pos (by omega), if_pos (by rw [wrap_small _ (by omega) (by omega)]; omega), if_pos (by rw [wrap_small _ (by omega) (by omega)]; omega)]
            exact hj
        · rw [if_neg h0]
    · rw [if_neg he]
      dsimp only
      rw [if_neg he]
end Go.Proofs.Ytmaochcdjmnffaa.B
