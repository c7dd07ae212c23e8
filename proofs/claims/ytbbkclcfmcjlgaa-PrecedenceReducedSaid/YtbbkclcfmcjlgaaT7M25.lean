import Derived.Test.YtbbkclcfmcjlgaaT7M21
import Derived.Deep.DeepMust
import Derived.Test.YtbbkclcfmcjlgaaT7M24
import Derived.WalkSpells
import Derived.Test.YtbbkclcfmcjlgaaT7M23
import Derived.Lib.LazyBuf


namespace Go.Proofs.Ytbbkclcfmcjlgaa.P
open Go.RowKit Go.Proofs.YtbbkclcfmcjlgaaW.PrintWords Go.Proofs.YtbbkclcfmcjlgaaW.PrintLast Go.Proofs.YtbbkclcfmcjlgaaW.PrintMore
set_option linter.unusedVariables false
set_option linter.unusedSimpArgs false

set_option maxHeartbeats 1000000 in
set_option maxRecDepth 100000 in
theorem clo37 (a b : Int) (g : Nat) (A : Option Addr) (c : Nat) (m : List (List Bool)) (w : World) (hg : w.heap[g]? = some (.cells #[.slice A m.length c] 48 (0, 0))) (hr : Kd.C (Kd.slice 4 Kd.bool) w A m.length m)
  (a0 : 0 ≤ a) (a1 : a < m.length) (b0 : 0 ≤ b) (b1 : b < (rd_L7 m a).length) :
  Calls Try.prog 37 #[.int .i64 a, .int .i64 b, .pointer (some ⟨g, 0, none⟩)] w fun e w' => e = .returned (.bool (rdOf false (rd_L7 m a) b)) ∧ Drawn0 w w' := by
 have hc : w.cell? ⟨g, 0, none⟩ = some (.slice A m.length c) := (blk_cell hg 0).trans rfl
 obtain ⟨ad, A2, c2, e, hx, hl, hi⟩ := at_L7 hr a a0 a1
 cases e
 obtain ⟨ad2, e2, hx2⟩ := Kd.at_bool hi b b0 b1
 cases e2
 have HR := aK hr
 have HI := aK hi
 clear hr hi
 have a0' := eq_true a0
 have a1' := eq_true a1
 have b0' := eq_true b0
 have b1' := eq_true b1
 go_enter Try.func37, Try.ntmps37
 go_wp2
 go_ret
 exact ⟨rfl, by repeat (first | exact Drawn0.refl _ | apply Drawn0.step)⟩

mutual
def col.l0 (gf : Int → Int → Option Bool) (n : Int) : Nat → Int → List S47 → Option (List S47)
 | 0, _, _ => none
 | k + 1, a, o => if a < n then col.l1 gf n k a 0 o else some o
def col.l1 (gf : Int → Int → Option Bool) (n : Int) : Nat → Int → Int → List S47 → Option (List S47)
 | 0, _, _, _ => none
 | k + 1, a, b, o => if b < n then ((gf a b).bind fun t => if t = true then (if o.length < 8796093022208 then col.l1 gf n k a (wrap64 (b + 1)) (o ++ [⟨a, b⟩]) else none) else col.l1 gf n k a (wrap64 (b + 1)) o) else col.l0 gf n k (wrap64 (a + 1)) o
end
set_option maxHeartbeats 4000000 in
set_option maxRecDepth 100000 in
theorem collect37 (gf : Int → Int → Option Bool) (cap : Value) (k : Nat) (n : Int) (r : List S47) (w : World)
  (hclo : ∀ (a b : Int) (t : Bool) (W : World), Below w.heap.size w W → gf a b = some t → Calls Try.prog 37 #[.int .i64 a, .int .i64 b, cap] W fun e w' => e = .returned (.bool t) ∧ Drawn0 W w')
  (h : col.l0 gf n k 0 [] = some r) :
  Calls Try.prog 35 #[.int .i64 n, .func (.func 37) #[] #[cap]] w fun e w' => ∃ v0_ : Value, e = .returned v0_ ∧ Kd.R k47 47 w' w.heap.size (fun _ => True) v0_ r ∧ Below w.heap.size w w' := by
 have HCL := aK hclo
 clear hclo
 have HB := aK (Below.refl w.heap.size w)
 have H' := aK h
 clear h
 go_enter Try.func35, Try.ntmps35
 go_wp2
 go_loopg [5, 9] k (fun kq v5 v9 w' => ∃ (o : List S47) (a : Int), v9 = .int .i64 a ∧ Aside0 (col.l0 gf n kq a o = some r) ∧ Aside0 (kq ≤ k) ∧ Aside0 (Kd.R k47 47 w' w.heap.size (fun _ => True) v5 o) ∧ Aside0 (Below w.heap.size w w'))
 case atStart => exact ⟨[], 0, rfl, H', ⟨Nat.le_refl _⟩, ⟨Kd.R_nil _ _ _ _ _⟩, ⟨(by repeat (first | (with_reducible first | exact HB.out | apply bA_ | apply bN_ | apply bD_) | exact HB.out))⟩⟩
 case round =>
  clear H'
  obtain ⟨o, a, rfl, HA, HK1, HO, HB⟩ := hrel
  cases gk with
  | zero => exact absurd HA.out (by simp [col.l0])
  | succ k1 =>
   have H := HA.out
   clear HA
   simp only [col.l0] at H
   by_cases c1 : a < n
   ·rw [if_pos c1] at H
    have c1b := decide_eq_true c1
    have H' := aK H; clear H c1; go_wp2
    go_loopg [5, 13] k1 (fun kq v5 v13 w' => ∃ (o : List S47) (b : Int), v13 = .int .i64 b ∧ Aside0 (col.l1 gf n kq a b o = some r) ∧ Aside0 (kq ≤ k1) ∧ Aside0 (Kd.R k47 47 w' w.heap.size (fun _ => True) v5 o) ∧ Aside0 (Below w.heap.size w w'))
    case atStart => exact ⟨o, 0, rfl, H', ⟨Nat.le_refl _⟩, ⟨by (with_reducible repeat (first | apply Kd.R_alloc | apply Kd.R_drewN | apply Kd.R_drew)); exact HO.out⟩, ⟨(by repeat (first | (with_reducible first | exact HB.out | apply bA_ | apply bN_ | apply bD_) | exact HB.out))⟩⟩
    case round =>
     clear H' HO HB
     obtain ⟨o, b, rfl, HA, HK2, HO, HB⟩ := hrel
     cases gk with
     | zero => exact absurd HA.out (by simp [col.l1])
     | succ k2 =>
      have H := HA.out
      clear HA
      simp only [col.l1] at H
      by_cases c2 : b < n
      ·rw [if_pos c2] at H
       have c2b := decide_eq_true c2
       obtain ⟨t, ht, H⟩ := oB_ H
       have HT := aK ht; clear c2 ht
       cases t with
       | true =>
        rw [if_pos rfl] at H
        by_cases c3 : o.length < 8796093022208
        ·rw [if_pos c3] at H; have H' := aK H; have LM := aK c3; clear H c3
         go_wp2_with (first | (go_at_call 37; go_must ((with_reducible refine (HCL.out a b true _ ?sB HT.out).mono ?_); (case sB => exact (by repeat (first | (with_reducible first | exact HB.out | apply bA_ | apply bN_ | apply bD_) | exact HB.out))); rintro e w' ⟨rfl, ⟨nd, rfl⟩⟩)) | ((with_reducible refine gate_builtin (b := .append) (xs := #[.tmp 20, .tmp 24]) rfl ?_); go_must (at_builtin; refine Kd.R_append k47 (w0 := w) w.heap.size rfl (.tmp 20) (.tmp 24) 22 47 (.agg #[(.int .i64 0), (.int .i64 0)]) 16 rfl Try.underlying22 info47 rfl (by decide) (by omega) _ o (⟨a, b⟩ : S47) [.int .i64 a, .int .i64 b] (fun _ => True) (fun _ => False) rfl rfl ?aP (fun _ hk => hk.elim) ?aF ?aO ?aB ?aS ?aL ?_; (case aP => exact k47_mkM _ _ _ (⟨a, b⟩ : S47)); (case aB => exact (by repeat (first | (with_reducible first | exact HB.out | apply bA_ | apply bN_ | apply bD_) | exact HB.out))); (case aF => exact (fun _ _ => trivial)); (case aO => exact (by (with_reducible repeat (first | apply Kd.R_alloc | apply Kd.R_drewN | apply Kd.R_drew)); exact HO.out)); (case aS => exact (bZ_ (by repeat (first | (with_reducible first | exact HB.out | apply bA_ | apply bN_ | apply bD_) | exact HB.out)))); (case aL => have := LM.out; omega); intro v2 w2 ho hb hg hat; have n0_ := aK ho; have n1_ := aK hb; clear HO HB; have HO := n0_; have HB := n1_; clear n0_ n1_ ho hb hg hat)))
         go_roundg k2
         case measure => have := HK1.out; have := HK2.out; omega
         case rel => exact ⟨o ++ [⟨a, b⟩], wrap64 (b + 1), (by first | rfl | (simp; done)), H', ⟨by have := HK2.out; omega⟩, ⟨by (with_reducible repeat (first | apply Kd.R_alloc | apply Kd.R_drewN | apply Kd.R_drew)); exact HO.out⟩, ⟨(by repeat (first | (with_reducible first | exact HB.out | apply bA_ | apply bN_ | apply bD_) | exact HB.out))⟩⟩
        ·rw [if_neg c3] at H
         exact absurd H (by simp)
       | false =>
        rw [if_neg (by decide)] at H; have H' := aK H; clear H
        go_wp2_with (go_at_call 37; go_must ((with_reducible refine (HCL.out a b false _ ?sB HT.out).mono ?_); (case sB => exact (by repeat (first | (with_reducible first | exact HB.out | apply bA_ | apply bN_ | apply bD_) | exact HB.out))); rintro e w' ⟨rfl, ⟨nd, rfl⟩⟩))
        go_roundg k2
        case measure => have := HK1.out; have := HK2.out; omega
        case rel => exact ⟨o, wrap64 (b + 1), (by first | rfl | (simp; done)), H', ⟨by have := HK2.out; omega⟩, ⟨by (with_reducible repeat (first | apply Kd.R_alloc | apply Kd.R_drewN | apply Kd.R_drew)); exact HO.out⟩, ⟨(by repeat (first | (with_reducible first | exact HB.out | apply bA_ | apply bN_ | apply bD_) | exact HB.out))⟩⟩
      ·rw [if_neg c2] at H
       have c2b := decide_eq_false c2
       have H' := aK H; clear H c2; go_wp2
       go_roundg k2
       case measure => have := HK1.out; have := HK2.out; omega
       case rel => exact ⟨o, wrap64 (a + 1), (by first | rfl | (simp; done)), H', ⟨by have := HK1.out; have := HK2.out; omega⟩, ⟨by (with_reducible repeat (first | apply Kd.R_alloc | apply Kd.R_drewN | apply Kd.R_drew)); exact HO.out⟩, ⟨(by repeat (first | (with_reducible first | exact HB.out | apply bA_ | apply bN_ | apply bD_) | exact HB.out))⟩⟩
   ·rw [if_neg c1] at H
    have c1b := decide_eq_false c1
    clear c1; obtain rfl := Option.some.inj H; go_wp2; go_ret
    exact ⟨_, rfl, by (with_reducible repeat (first | apply Kd.R_alloc | apply Kd.R_drewN | apply Kd.R_drew)); exact HO.out, (by repeat (first | (with_reducible first | exact HB.out | apply bA_ | apply bN_ | apply bD_) | exact HB.out))⟩
set_option maxHeartbeats 4000000 in
set_option maxRecDepth 100000 in
theorem collect36 (gf : Int → Int → Option Bool) (cap cap2 : Value) (k : Nat) (n : Int) (r : List S47) (w : World)
  (hclo : ∀ (a b : Int) (t : Bool) (W : World), Below w.heap.size w W → gf a b = some t → Calls Try.prog 36 #[.int .i64 a, .int .i64 b, cap, cap2] W fun e w' => e = .returned (.bool t) ∧ Drawn0 W w')
  (h : col.l0 gf n k 0 [] = some r) :
  Calls Try.prog 35 #[.int .i64 n, .func (.func 36) #[] #[cap, cap2]] w fun e w' => ∃ v0_ : Value, e = .returned v0_ ∧ Kd.R k47 47 w' w.heap.size (fun _ => True) v0_ r ∧ Below w.heap.size w w' := by
 have HCL := aK hclo
 clear hclo
 have HB := aK (Below.refl w.heap.size w)
 have H' := aK h
 clear h
 go_enter Try.func35, Try.ntmps35
 go_wp2
 go_loopg [5, 9] k (fun kq v5 v9 w' => ∃ (o : List S47) (a : Int), v9 = .int .i64 a ∧ Aside0 (col.l0 gf n kq a o = some r) ∧ Aside0 (kq ≤ k) ∧ Aside0 (Kd.R k47 47 w' w.heap.size (fun _ => True) v5 o) ∧ Aside0 (Below w.heap.size w w'))
 case atStart => exact ⟨[], 0, rfl, H', ⟨Nat.le_refl _⟩, ⟨Kd.R_nil _ _ _ _ _⟩, ⟨(by repeat (first | (with_reducible first | exact HB.out | apply bA_ | apply bN_ | apply bD_) | exact HB.out))⟩⟩
 case round =>
  clear H'
  obtain ⟨o, a, rfl, HA, HK1, HO, HB⟩ := hrel
  cases gk with
  | zero => exact absurd HA.out (by simp [col.l0])
  | succ k1 =>
   have H := HA.out
   clear HA
   simp only [col.l0] at H
   by_cases c1 : a < n
   ·rw [if_pos c1] at H
    have c1b := decide_eq_true c1
    have H' := aK H; clear H c1; go_wp2
    go_loopg [5, 13] k1 (fun kq v5 v13 w' => ∃ (o : List S47) (b : Int), v13 = .int .i64 b ∧ Aside0 (col.l1 gf n kq a b o = some r) ∧ Aside0 (kq ≤ k1) ∧ Aside0 (Kd.R k47 47 w' w.heap.size (fun _ => True) v5 o) ∧ Aside0 (Below w.heap.size w w'))
    case atStart => exact ⟨o, 0, rfl, H', ⟨Nat.le_refl _⟩, ⟨by (with_reducible repeat (first | apply Kd.R_alloc | apply Kd.R_drewN | apply Kd.R_drew)); exact HO.out⟩, ⟨(by repeat (first | (with_reducible first | exact HB.out | apply bA_ | apply bN_ | apply bD_) | exact HB.out))⟩⟩
    case round =>
     clear H' HO HB
     obtain ⟨o, b, rfl, HA, HK2, HO, HB⟩ := hrel
     cases gk with
     | zero => exact absurd HA.out (by simp [col.l1])
     | succ k2 =>
      have H := HA.out
      clear HA
      simp only [col.l1] at H
      by_cases c2 : b < n
      ·rw [if_pos c2] at H
       have c2b := decide_eq_true c2
       obtain ⟨t, ht, H⟩ := oB_ H
       have HT := aK ht; clear c2 ht
       cases t with
       | true =>
        rw [if_pos rfl] at H
        by_cases c3 : o.length < 8796093022208
        ·rw [if_pos c3] at H; have H' := aK H; have LM := aK c3; clear H c3
         go_wp2_with (first | (go_at_call 36; go_must ((with_reducible refine (HCL.out a b true _ ?sB HT.out).mono ?_); (case sB => exact (by repeat (first | (with_reducible first | exact HB.out | apply bA_ | apply bN_ | apply bD_) | exact HB.out))); rintro e w' ⟨rfl, ⟨nd, rfl⟩⟩)) | ((with_reducible refine gate_builtin (b := .append) (xs := #[.tmp 20, .tmp 24]) rfl ?_); go_must (at_builtin; refine Kd.R_append k47 (w0 := w) w.heap.size rfl (.tmp 20) (.tmp 24) 22 47 (.agg #[(.int .i64 0), (.int .i64 0)]) 16 rfl Try.underlying22 info47 rfl (by decide) (by omega) _ o (⟨a, b⟩ : S47) [.int .i64 a, .int .i64 b] (fun _ => True) (fun _ => False) rfl rfl ?aP (fun _ hk => hk.elim) ?aF ?aO ?aB ?aS ?aL ?_; (case aP => exact k47_mkM _ _ _ (⟨a, b⟩ : S47)); (case aB => exact (by repeat (first | (with_reducible first | exact HB.out | apply bA_ | apply bN_ | apply bD_) | exact HB.out))); (case aF => exact (fun _ _ => trivial)); (case aO => exact (by (with_reducible repeat (first | apply Kd.R_alloc | apply Kd.R_drewN | apply Kd.R_drew)); exact HO.out)); (case aS => exact (bZ_ (by repeat (first | (with_reducible first | exact HB.out | apply bA_ | apply bN_ | apply bD_) | exact HB.out)))); (case aL => have := LM.out; omega); intro v2 w2 ho hb hg hat; have n0_ := aK ho; have n1_ := aK hb; clear HO HB; have HO := n0_; have HB := n1_; clear n0_ n1_ ho hb hg hat)))
         go_roundg k2
         case measure => have := HK1.out; have := HK2.out; omega
         case rel => exact ⟨o ++ [⟨a, b⟩], wrap64 (b + 1), (by first | rfl | (simp; done)), H', ⟨by have := HK2.out; omega⟩, ⟨by (with_reducible repeat (first | apply Kd.R_alloc | apply Kd.R_drewN | apply Kd.R_drew)); exact HO.out⟩, ⟨(by repeat (first | (with_reducible first | exact HB.out | apply bA_ | apply bN_ | apply bD_) | exact HB.out))⟩⟩
        ·rw [if_neg c3] at H
         exact absurd H (by simp)
       | false =>
        rw [if_neg (by decide)] at H; have H' := aK H; clear H
        go_wp2_with (go_at_call 36; go_must ((with_reducible refine (HCL.out a b false _ ?sB HT.out).mono ?_); (case sB => exact (by repeat (first | (with_reducible first | exact HB.out | apply bA_ | apply bN_ | apply bD_) | exact HB.out))); rintro e w' ⟨rfl, ⟨nd, rfl⟩⟩))
        go_roundg k2
        case measure => have := HK1.out; have := HK2.out; omega
        case rel => exact ⟨o, wrap64 (b + 1), (by first | rfl | (simp; done)), H', ⟨by have := HK2.out; omega⟩, ⟨by (with_reducible repeat (first | apply Kd.R_alloc | apply Kd.R_drewN | apply Kd.R_drew)); exact HO.out⟩, ⟨(by repeat (first | (with_reducible first | exact HB.out | apply bA_ | apply bN_ | apply bD_) | exact HB.out))⟩⟩
      ·rw [if_neg c2] at H
       have c2b := decide_eq_false c2
       have H' := aK H; clear H c2; go_wp2
       go_roundg k2
       case measure => have := HK1.out; have := HK2.out; omega
       case rel => exact ⟨o, wrap64 (a + 1), (by first | rfl | (simp; done)), H', ⟨by have := HK1.out; have := HK2.out; omega⟩, ⟨by (with_reducible repeat (first | apply Kd.R_alloc | apply Kd.R_drewN | apply Kd.R_drew)); exact HO.out⟩, ⟨(by repeat (first | (with_reducible first | exact HB.out | apply bA_ | apply bN_ | apply bD_) | exact HB.out))⟩⟩
   ·rw [if_neg c1] at H
    have c1b := decide_eq_false c1
    clear c1; obtain rfl := Option.some.inj H; go_wp2; go_ret
    exact ⟨_, rfl, by (with_reducible repeat (first | apply Kd.R_alloc | apply Kd.R_drewN | apply Kd.R_drew)); exact HO.out, (by repeat (first | (with_reducible first | exact HB.out | apply bA_ | apply bN_ | apply bD_) | exact HB.out))⟩
end Go.Proofs.Ytbbkclcfmcjlgaa.P


namespace Go.Proofs.Ytbbkclcfmcjlgaa.P
open Go.RowKit Go.Proofs.YtbbkclcfmcjlgaaW.PrintWords Go.Proofs.YtbbkclcfmcjlgaaW.PrintLast Go.Proofs.YtbbkclcfmcjlgaaW.PrintMore
set_option linter.unusedVariables false
set_option linter.unusedSimpArgs false

def at2 (m : List (List Bool)) (a b : Int) : Option Bool := if 0 ≤ a ∧ a < m.length ∧ 0 ≤ b ∧ b < (rd_L7 m a).length then some (rdOf false (rd_L7 m a) b) else none
def red.l0 (m : List (List Bool)) (n a b : Int) : Nat → Int → Option Bool
 | 0, _ => none
 | k + 1, c => if c < n then ((at2 m a c).bind fun t => if t = true then ((at2 m c b).bind fun u => if u = true then some false else red.l0 m n a b k (wrap64 (c + 1))) else red.l0 m n a b k (wrap64 (c + 1))) else some true
def red.f (k : Nat) (m : List (List Bool)) (n a b : Int) : Option Bool := (at2 m a b).bind fun t => if t = true then red.l0 m n a b k 0 else some false
theorem at2_some {m : List (List Bool)} {a b : Int} {t : Bool} (h : at2 m a b = some t) : (0 ≤ a ∧ a < m.length ∧ 0 ≤ b ∧ b < (rd_L7 m a).length) ∧ rdOf false (rd_L7 m a) b = t := by
 unfold at2 at h
 split at h
 ·rename_i hc
  exact ⟨hc, Option.some.inj h⟩
 ·cases h
theorem rows_at {W : World} {A : Option Addr} {m : List (List Bool)} (hr : Kd.C (Kd.slice 4 Kd.bool) W A m.length m) {a b : Int} {t : Bool} (h : at2 m a b = some t) :
  ∃ ad ad2 c2, A = some ad ∧ W.cell? (ad.add a.toNat) = some (.slice (some ad2) (rd_L7 m a).length c2) ∧ W.cell? (ad2.add b.toNat) = some (.bool t) ∧ 0 ≤ a ∧ a < (m.length : Int) ∧ 0 ≤ b ∧ b < ((rd_L7 m a).length : Int) := by
 obtain ⟨⟨a0, a1, b0, b1⟩, ht⟩ := at2_some h
 obtain ⟨ad, A2, c2, e, hx, hl, hi⟩ := at_L7 hr a a0 a1
 obtain ⟨ad2, e2, hx2⟩ := Kd.at_bool hi b b0 b1
 subst e2
 rw [ht] at hx2
 exact ⟨ad, ad2, c2, e, hx, hx2, a0, a1, b0, b1⟩
set_option maxHeartbeats 2000000 in
set_option maxRecDepth 100000 in
theorem clo36 (k : Nat) (a b n : Int) (g g2 : Nat) (A : Option Addr) (c : Nat) (m : List (List Bool)) (r : Bool) (w : World) (hg : w.heap[g]? = some (.cells #[.slice A m.length c] 48 (0, 0))) (hg2 : w.heap[g2]? = some (.cells #[.int .i64 n] 3 (0, 0))) (hr : Kd.C (Kd.slice 4 Kd.bool) w A m.length m)
  (h : red.f k m n a b = some r) :
  Calls Try.prog 36 #[.int .i64 a, .int .i64 b, .pointer (some ⟨g, 0, none⟩), .pointer (some ⟨g2, 0, none⟩)] w fun e w' => e = .returned (.bool r) ∧ Drawn0 w w' := by
 have hc : w.cell? ⟨g, 0, none⟩ = some (.slice A m.length c) := (blk_cell hg 0).trans rfl
 have hc2 : w.cell? ⟨g2, 0, none⟩ = some (.int .i64 n) := (blk_cell hg2 0).trans rfl
 have HR := aK hr
 unfold red.f at h
 obtain ⟨t, ht, H⟩ := oB_ h
 obtain ⟨ad, ad2, c2, e, hx, hx2, a0, a1, b0, b1⟩ := rows_at hr ht
 clear h hr ht hg hg2
 subst e
 have a0' := eq_true a0
 have a1' := eq_true a1
 have b0' := eq_true b0
 have b1' := eq_true b1
 cases t with
 | false =>
  rw [if_neg (by decide)] at H; obtain rfl := Option.some.inj H
  go_enter Try.func36, Try.ntmps36
  go_wp2; go_ret
  exact ⟨rfl, by repeat (first | exact Drawn0.refl _ | apply Drawn0.step)⟩
 | true =>
  rw [if_pos rfl] at H; have H' := aK H; clear H
  go_enter Try.func36, Try.ntmps36
  go_wp2
  go_loopg [17] k (fun kq v17 w' => ∃ (x : Int), v17 = .int .i64 x ∧ Aside0 (red.l0 m n a b kq x = some r) ∧ Aside0 (kq ≤ k) ∧ Drawn0 w w')
  case atStart => exact ⟨0, rfl, H', ⟨Nat.le_refl _⟩, by repeat (first | exact Drawn0.refl _ | apply Drawn0.step)⟩
  case round =>
   clear H'
   obtain ⟨x, rfl, HA, HK1, ⟨m1, rfl⟩⟩ := hrel
   cases gk with
   | zero => exact absurd HA.out (by simp [red.l0])
   | succ k1 =>
    have H := HA.out
    clear HA
    simp only [red.l0] at H
    by_cases c1 : x < n
    ·rw [if_pos c1] at H
     have c1b := decide_eq_true c1
     obtain ⟨t, ht, H⟩ := oB_ H
     obtain ⟨ad', ad3, c3, e, hx3, hx4, x0, x1, x2, x3⟩ := rows_at HR.out ht
     obtain rfl : ad = ad' := by injection e
     have ei := Option.some.inj (hx.symm.trans hx3)
     injection ei with e1 e2 e3
     injection e1 with e1
     subst e1; subst e3; clear e2 hx3
     have x2' := eq_true x2
     have x3' := eq_true x3
     clear ht c1
     cases t with
     | false =>
      rw [if_neg (by decide)] at H; have H' := aK H; clear H; go_wp2
      go_roundg k1
      case measure => have := HK1.out; omega
      case rel => exact ⟨wrap64 (x + 1), (by first | rfl | (simp; done)), H', ⟨by have := HK1.out; omega⟩, by repeat (first | exact Drawn0.refl _ | apply Drawn0.step)⟩
     | true =>
      rw [if_pos rfl] at H
      obtain ⟨u, hu, H⟩ := oB_ H
      obtain ⟨ad', ad4, c4, e', hx5, hx6, y0, y1, y2, y3⟩ := rows_at HR.out hu
      obtain rfl : ad = ad' := by injection e'
      have y0' := eq_true y0
      have y1' := eq_true y1
      have y3' := eq_true y3
      clear hu
      cases u with
      | true =>
       rw [if_pos rfl] at H; obtain rfl := Option.some.inj H; go_wp2; go_ret
       exact ⟨rfl, by repeat (first | exact Drawn0.refl _ | apply Drawn0.step)⟩
      | false =>
       rw [if_neg (by decide)] at H; have H' := aK H; clear H; go_wp2
       go_roundg k1
       case measure => have := HK1.out; omega
       case rel => exact ⟨wrap64 (x + 1), (by first | rfl | (simp; done)), H', ⟨by have := HK1.out; omega⟩, by repeat (first | exact Drawn0.refl _ | apply Drawn0.step)⟩
    ·rw [if_neg c1] at H
     have c1b := decide_eq_false c1
     clear c1; obtain rfl := Option.some.inj H; go_wp2; go_ret
     exact ⟨rfl, by repeat (first | exact Drawn0.refl _ | apply Drawn0.step)⟩
end Go.Proofs.Ytbbkclcfmcjlgaa.P



namespace Go.Proofs.Ytbbkclcfmcjlgaa.P
open Go.RowKit Go.Proofs.YtbbkclcfmcjlgaaW.PrintWords Go.Proofs.YtbbkclcfmcjlgaaW.PrintLast Go.Proofs.YtbbkclcfmcjlgaaW.PrintMore
set_option linter.unusedVariables false
set_option linter.unusedSimpArgs false

theorem col.mono_l {gf gf' : Int → Int → Option Bool} (hg : ∀ a b, LeO (gf a b) (gf' a b)) (n : Int) : ∀ k, (∀ a o, LeO (col.l0 gf n k a o) (col.l0 gf' n (k + 1) a o)) ∧ (∀ a b o, LeO (col.l1 gf n k a b o) (col.l1 gf' n (k + 1) a b o)) := by
 intro k
 induction k with
 | zero => exact ⟨fun a o => LeO.none _, fun a b o => LeO.none _⟩
 | succ k ih =>
  refine ⟨fun a o => ?_, fun a b o => ?_⟩
  ·unfold col.l0
   exact LeO.ite (ih.2 _ _ _) (LeO.refl _)
  ·unfold col.l1
   exact LeO.ite (LeO.bind (hg _ _) (fun t => LeO.ite (LeO.ite (ih.2 _ _ _) (LeO.none _)) (ih.2 _ _ _))) (ih.1 _ _)
theorem red.mono_l (m : List (List Bool)) (n a b : Int) : ∀ k c, LeO (red.l0 m n a b k c) (red.l0 m n a b (k + 1) c) := by
 intro k
 induction k with
 | zero => exact fun c => LeO.none _
 | succ k ih =>
  intro c
  unfold red.l0
  exact LeO.ite (LeO.bind (LeO.refl _) (fun t => LeO.ite (LeO.bind (LeO.refl _) (fun u => LeO.ite (LeO.refl _) (ih _))) (ih _))) (LeO.refl _)
theorem red.mono (k : Nat) (m : List (List Bool)) (n a b : Int) : LeO (red.f k m n a b) (red.f (k + 1) m n a b) := by
 unfold red.f
 exact LeO.bind (LeO.refl _) (fun t => LeO.ite (red.mono_l _ _ _ _ _ _) (LeO.refl _))
def precedence_Closure.f (k : Nat) (n : Int) (l : List S47) : Option (List S47 × Int) := (reach.f k n l).bind fun t => if t.2 = 0 then ((col.l0 (at2 t.1) n k 0 []).bind fun r => some (r, 0)) else some ([], t.2)
def precedence_Reduce.f (k : Nat) (n : Int) (l : List S47) : Option (List S47 × Int) := (reach.f k n l).bind fun t => if t.2 = 0 then ((col.l0 (red.f k t.1 n) n k 0 []).bind fun r => some (r, 0)) else some ([], t.2)
theorem precedence_Closure.mono : ∀ a0 a1 k, LeO (precedence_Closure.f k a0 a1) (precedence_Closure.f (k + 1) a0 a1) := by
 intro a0 a1 k
 unfold precedence_Closure.f
 exact LeO.bind (reach.mono _ _ _) (fun t => LeO.ite (LeO.bind ((col.mono_l (fun a b => LeO.refl _) _ k).1 _ _) (fun r => LeO.refl _)) (LeO.refl _))
set_option maxHeartbeats 4000000 in
set_option maxRecDepth 100000 in
theorem precedence_Closure.calls (k : Nat) (n : Int) (A1 : Option Addr) (c1 : Nat) (l : List S47) (r1 : List S47) (r2 : Int) (w : World) (hr1 : Kd.C k47 w A1 l.length l) (hc1 : l.length ≤ c1) (h : precedence_Closure.f k n l = some (r1, r2)) :
  Calls Try.prog 16 #[.int .i64 n, .slice A1 l.length c1] w fun e w' => ∃ v0_ : Value, e = .returned (.tuple #[v0_, .int .i64 r2]) ∧ Kd.R k47 47 w' w.heap.size (fun _ => True) v0_ r1 ∧ Below w.heap.size w w' := by
 have HR1 := aK hr1
 have HC1 := aK hc1
 clear hr1 hc1
 have HB := aK (Below.refl w.heap.size w)
 unfold precedence_Closure.f at h
 obtain ⟨⟨m, e⟩, ho, H⟩ := oB_ h
 have HO := aK ho
 clear h ho
 dsimp only at H
 have hmf : ∀ (fn : Fn) (first cap : Array Value) (w : World), (Instr.makeFunc fn first cap).run Try.prog w = .ok (.func fn first cap) w := fun _ _ _ _ => rfl
 by_cases z : e = 0
 ·rw [if_pos z] at H; subst z
  obtain ⟨r, hr, H2⟩ := oB_ H
  simp only [Option.some.injEq, Prod.mk.injEq] at H2
  obtain ⟨rfl, rfl⟩ := H2
  have HC := aK hr; clear H hr
  go_enter Try.func16, Try.ntmps16
  go_wp2_with (first | (go_at_call 34; go_must ((with_reducible refine (reach.calls k n _ _ l _ _ _ ?s1 ?s2 HO.out).mono ?_); (case s1 => exact Kd.C_below HR1.out HB.out); (case s2 => exact HC1.out); rintro e w8 ⟨v0, rfl, hv, hb⟩; have n_ := aK (bT_ HB.out hb); have HV := aK (Kd.R_lower hv (bZ_ HB.out)); clear HB hb hv; have HB := n_; clear n_; skip)) | ((with_reducible refine gate_dst (N := 6) rfl ?_); go_must (refine box_event ?hg (N := 6) ?hd (cs := #[.slice none 0 0]) (t := 48) ?hr ?_; (case hd => rfl); (case hg => rfl); (case hr => first | (go_simp; done) | (go_simp; rfl)); intro g48 hg w13 hbox hb; have n_ := aK (bT_ HB.out hb); have nv := aK (Kd.R_below HV.out hb); have BK48 := aK hbox; have GB48 := aK (by rw [hg]; exact bZ_ HB.out : w.heap.size ≤ g48); clear HB HV hb hbox hg; have HB := n_; have HV := nv; clear n_ nv; obtain ⟨Am, cm, em⟩ := Kd.R_slice HV.out; subst em; have hfz := blk_frozen BK48.out 0; have hz0 : w13.cell? ⟨g48, 0, none⟩ = some (.slice none 0 0) := (blk_cell BK48.out 0).trans rfl)) | ((with_reducible refine gate_store (t := 48) (p := 6) rfl ?_); go_must (refine store_event (t := 48) (p := 6) (v := ?vo16_) (w1 := (w13.setCell ⟨g48, 0, none⟩ (.slice Am m.length cm))) ?hg ?ho ?hn ?hr ?_; (case ho => rfl); (case hg => rfl); (case hn => rfl); (case hr => first | (go_simp; done) | (go_simp; rfl)); intro w14 hw; have n_ := aK (show Below w.heap.size w w14 by rw [hw]; exact below_set HB.out GB48.out); have nv := aK (show Kd.R (Kd.slice 4 Kd.bool) 52 w14 w.heap.size (fun _ => True) (.slice Am m.length cm) m by rw [hw]; exact Kd.R_set HV.out BK48.out (by decide) 0 _); have nk := aK (show w14.heap[g48]? = some (.cells #[.slice Am m.length cm] 48 (0, 0)) by rw [hw]; exact blk_put BK48.out 0 _ rfl); clear HB HV BK48 hz0 hfz hw; have HB := n_; have HV := nv; have BK48 := nk; clear n_ nv nk; skip)) | (go_at_call 35; go_must (refine (collect37 (at2 m) (.pointer (some ⟨g48, 0, none⟩)) k n r _ ?hc HC.out).mono ?_; (case hc => (intro a b t W hbW hgf; obtain ⟨⟨a0, a1, b0, b1⟩, ht⟩ := at2_some hgf; rw [← ht]; exact clo37 a b g48 Am cm m W ((hbW.block g48 (blk_lt BK48.out)).trans BK48.out) (Kd.C_below (Kd.R_reads' HV.out).2.2 hbW) a0 a1 b0 b1)); rintro e w' ⟨v0, rfl, hv, hb⟩; have n_ := aK (bT_ HB.out hb); have nv := aK (Kd.R_lower hv (bZ_ HB.out)); clear HB HV hb hv; have HB := n_; have HV := nv; clear n_ nv)))
  go_ret2
  exact ⟨_, rfl, HV.out, HB.out⟩
 ·rw [if_neg z] at H
  have zb : (e != 0) = true := bne_iff_ne.mpr z
  simp only [Option.some.injEq, Prod.mk.injEq] at H
  obtain ⟨rfl, rfl⟩ := H
  clear z
  go_enter Try.func16, Try.ntmps16
  go_wp2_with (first | (go_at_call 34; go_must ((with_reducible refine (reach.calls k n _ _ l _ _ _ ?s1 ?s2 HO.out).mono ?_); (case s1 => exact Kd.C_below HR1.out HB.out); (case s2 => exact HC1.out); rintro e w8 ⟨v0, rfl, hv, hb⟩; have n_ := aK (bT_ HB.out hb); have HV := aK (Kd.R_lower hv (bZ_ HB.out)); clear HB hb hv; have HB := n_; clear n_; skip)) | ((with_reducible refine gate_dst (N := 6) rfl ?_); go_must (refine box_event ?hg (N := 6) ?hd (cs := #[.slice none 0 0]) (t := 48) ?hr ?_; (case hd => rfl); (case hg => rfl); (case hr => first | (go_simp; done) | (go_simp; rfl)); intro g48 hg w13 hbox hb; have n_ := aK (bT_ HB.out hb); have nv := aK (Kd.R_below HV.out hb); have BK48 := aK hbox; have GB48 := aK (by rw [hg]; exact bZ_ HB.out : w.heap.size ≤ g48); clear HB HV hb hbox hg; have HB := n_; have HV := nv; clear n_ nv; obtain ⟨Am, cm, em⟩ := Kd.R_slice HV.out; subst em; have hfz := blk_frozen BK48.out 0; have hz0 : w13.cell? ⟨g48, 0, none⟩ = some (.slice none 0 0) := (blk_cell BK48.out 0).trans rfl)) | ((with_reducible refine gate_store (t := 48) (p := 6) rfl ?_); go_must (refine store_event (t := 48) (p := 6) (v := ?vp16_) (w1 := (w13.setCell ⟨g48, 0, none⟩ (.slice Am m.length cm))) ?hg ?ho ?hn ?hr ?_; (case ho => rfl); (case hg => rfl); (case hn => rfl); (case hr => first | (go_simp; done) | (go_simp; rfl)); intro w14 hw; have n_ := aK (show Below w.heap.size w w14 by rw [hw]; exact below_set HB.out GB48.out); have nv := aK (show Kd.R (Kd.slice 4 Kd.bool) 52 w14 w.heap.size (fun _ => True) (.slice Am m.length cm) m by rw [hw]; exact Kd.R_set HV.out BK48.out (by decide) 0 _); have nk := aK (show w14.heap[g48]? = some (.cells #[.slice Am m.length cm] 48 (0, 0)) by rw [hw]; exact blk_put BK48.out 0 _ rfl); clear HB HV BK48 hz0 hfz hw; have HB := n_; have HV := nv; have BK48 := nk; clear n_ nv nk; skip)))
  go_ret2
  exact ⟨_, rfl, Kd.R_nil _ _ _ _ _, HB.out⟩
set_option maxHeartbeats 4000000 in
set_option maxRecDepth 100000 in
theorem precedence_Reduce.calls (k : Nat) (n : Int) (A1 : Option Addr) (c1 : Nat) (l : List S47) (r1 : List S47) (r2 : Int) (w : World) (hr1 : Kd.C k47 w A1 l.length l) (hc1 : l.length ≤ c1) (h : precedence_Reduce.f k n l = some (r1, r2)) :
  Calls Try.prog 14 #[.int .i64 n, .slice A1 l.length c1] w fun e w' => ∃ v0_ : Value, e = .returned (.tuple #[v0_, .int .i64 r2]) ∧ Kd.R k47 47 w' w.heap.size (fun _ => True) v0_ r1 ∧ Below w.heap.size w w' := by
 have HR1 := aK hr1
 have HC1 := aK hc1
 clear hr1 hc1
 have HB := aK (Below.refl w.heap.size w)
 unfold precedence_Reduce.f at h
 obtain ⟨⟨m, e⟩, ho, H⟩ := oB_ h
 have HO := aK ho
 clear h ho
 dsimp only at H
 have hmf : ∀ (fn : Fn) (first cap : Array Value) (w : World), (Instr.makeFunc fn first cap).run Try.prog w = .ok (.func fn first cap) w := fun _ _ _ _ => rfl
 by_cases z : e = 0
 ·rw [if_pos z] at H; subst z
  obtain ⟨r, hr, H2⟩ := oB_ H
  simp only [Option.some.injEq, Prod.mk.injEq] at H2
  obtain ⟨rfl, rfl⟩ := H2
  have HC := aK hr; clear H hr
  go_enter Try.func14, Try.ntmps14
  go_wp2_with (first | ((with_reducible refine gate_dst (N := 2) rfl ?_); go_must (refine box_event ?hg (N := 2) ?hd (cs := #[.int .i64 n]) (t := 3) ?hr ?_; (case hd => rfl); (case hg => rfl); (case hr => first | (go_simp; done) | (go_simp; rfl)); intro g hg w10 hbox hb; have n1_ := aK (bT_ HB.out hb); have BK := aK hbox; have hzz : w10.cell? ⟨g, 0, none⟩ = some (.int .i64 n) := (blk_cell hbox 0).trans rfl; clear HB hb hbox hg; have HB := n1_; clear n1_)) | (go_at_call 34; go_must ((with_reducible refine (reach.calls k n _ _ l _ _ _ ?s1 ?s2 HO.out).mono ?_); (case s1 => exact Kd.C_below HR1.out HB.out); (case s2 => exact HC1.out); rintro e w8 ⟨v0, rfl, hv, hb⟩; have n_ := aK (bT_ HB.out hb); have HV := aK (Kd.R_lower hv (bZ_ HB.out)); have nb := aK ((hb.block _ (blk_lt BK.out)).trans BK.out); clear HB hb hv; have HB := n_; clear n_; clear BK hzz; have BK := nb; clear nb; have hzz : w8.cell? ⟨g, 0, none⟩ = some (.int .i64 n) := (blk_cell BK.out 0).trans rfl; skip)) | ((with_reducible refine gate_dst (N := 6) rfl ?_); go_must (refine box_event ?hg (N := 6) ?hd (cs := #[.slice none 0 0]) (t := 48) ?hr ?_; (case hd => rfl); (case hg => rfl); (case hr => first | (go_simp; done) | (go_simp; rfl)); intro g48 hg w13 hbox hb; have n_ := aK (bT_ HB.out hb); have nv := aK (Kd.R_below HV.out hb); have nb := aK ((hb.block _ (blk_lt BK.out)).trans BK.out); have BK48 := aK hbox; have GB48 := aK (by rw [hg]; exact bZ_ HB.out : w.heap.size ≤ g48); clear HB HV hb hbox hg; have HB := n_; have HV := nv; clear n_ nv; clear BK hzz; have BK := nb; clear nb; have hzz : w13.cell? ⟨g, 0, none⟩ = some (.int .i64 n) := (blk_cell BK.out 0).trans rfl; obtain ⟨Am, cm, em⟩ := Kd.R_slice HV.out; subst em; have hfz := blk_frozen BK48.out 0; have hz0 : w13.cell? ⟨g48, 0, none⟩ = some (.slice none 0 0) := (blk_cell BK48.out 0).trans rfl)) | ((with_reducible refine gate_store (t := 48) (p := 6) rfl ?_); go_must (refine store_event (t := 48) (p := 6) (v := ?vo14_) (w1 := (w13.setCell ⟨g48, 0, none⟩ (.slice Am m.length cm))) ?hg ?ho ?hn ?hr ?_; (case ho => rfl); (case hg => rfl); (case hn => rfl); (case hr => first | (go_simp; done) | (go_simp; rfl)); intro w14 hw; have n_ := aK (show Below w.heap.size w w14 by rw [hw]; exact below_set HB.out GB48.out); have nv := aK (show Kd.R (Kd.slice 4 Kd.bool) 52 w14 w.heap.size (fun _ => True) (.slice Am m.length cm) m by rw [hw]; exact Kd.R_set HV.out BK48.out (by decide) 0 _); have nb := aK (show w14.heap[g]? = some (.cells #[.int .i64 n] 3 (0, 0)) by rw [hw]; exact blk_far BK.out (blk_ne BK.out BK48.out (by decide)) _); have nk := aK (show w14.heap[g48]? = some (.cells #[.slice Am m.length cm] 48 (0, 0)) by rw [hw]; exact blk_put BK48.out 0 _ rfl); clear HB HV BK48 hz0 hfz hw; have HB := n_; have HV := nv; have BK48 := nk; clear n_ nv nk; clear BK hzz; have BK := nb; clear nb; have hzz : w14.cell? ⟨g, 0, none⟩ = some (.int .i64 n) := (blk_cell BK.out 0).trans rfl; skip)) | (go_at_call 35; go_must (refine (collect36 (red.f k m n) (.pointer (some ⟨g48, 0, none⟩)) (.pointer (some ⟨g, 0, none⟩)) k n r _ ?hc HC.out).mono ?_; (case hc => (intro a b t W hbW hgf; exact clo36 k a b n g48 g Am cm m t W ((hbW.block g48 (blk_lt BK48.out)).trans BK48.out) ((hbW.block g (blk_lt BK.out)).trans BK.out) (Kd.C_below (Kd.R_reads' HV.out).2.2 hbW) hgf)); rintro e w' ⟨v0, rfl, hv, hb⟩; have n_ := aK (bT_ HB.out hb); have nv := aK (Kd.R_lower hv (bZ_ HB.out)); clear HB HV hb hv; have HB := n_; have HV := nv; clear n_ nv)))
  go_ret2
  exact ⟨_, rfl, HV.out, HB.out⟩
 ·rw [if_neg z] at H
  have zb : (e != 0) = true := bne_iff_ne.mpr z
  simp only [Option.some.injEq, Prod.mk.injEq] at H
  obtain ⟨rfl, rfl⟩ := H
  clear z
  go_enter Try.func14, Try.ntmps14
  go_wp2_with (first | ((with_reducible refine gate_dst (N := 2) rfl ?_); go_must (refine box_event ?hg (N := 2) ?hd (cs := #[.int .i64 n]) (t := 3) ?hr ?_; (case hd => rfl); (case hg => rfl); (case hr => first | (go_simp; done) | (go_simp; rfl)); intro g hg w10 hbox hb; have n1_ := aK (bT_ HB.out hb); have BK := aK hbox; have hzz : w10.cell? ⟨g, 0, none⟩ = some (.int .i64 n) := (blk_cell hbox 0).trans rfl; clear HB hb hbox hg; have HB := n1_; clear n1_)) | (go_at_call 34; go_must ((with_reducible refine (reach.calls k n _ _ l _ _ _ ?s1 ?s2 HO.out).mono ?_); (case s1 => exact Kd.C_below HR1.out HB.out); (case s2 => exact HC1.out); rintro e w8 ⟨v0, rfl, hv, hb⟩; have n_ := aK (bT_ HB.out hb); have HV := aK (Kd.R_lower hv (bZ_ HB.out)); have nb := aK ((hb.block _ (blk_lt BK.out)).trans BK.out); clear HB hb hv; have HB := n_; clear n_; clear BK hzz; have BK := nb; clear nb; have hzz : w8.cell? ⟨g, 0, none⟩ = some (.int .i64 n) := (blk_cell BK.out 0).trans rfl; skip)) | ((with_reducible refine gate_dst (N := 6) rfl ?_); go_must (refine box_event ?hg (N := 6) ?hd (cs := #[.slice none 0 0]) (t := 48) ?hr ?_; (case hd => rfl); (case hg => rfl); (case hr => first | (go_simp; done) | (go_simp; rfl)); intro g48 hg w13 hbox hb; have n_ := aK (bT_ HB.out hb); have nv := aK (Kd.R_below HV.out hb); have nb := aK ((hb.block _ (blk_lt BK.out)).trans BK.out); have BK48 := aK hbox; have GB48 := aK (by rw [hg]; exact bZ_ HB.out : w.heap.size ≤ g48); clear HB HV hb hbox hg; have HB := n_; have HV := nv; clear n_ nv; clear BK hzz; have BK := nb; clear nb; have hzz : w13.cell? ⟨g, 0, none⟩ = some (.int .i64 n) := (blk_cell BK.out 0).trans rfl; obtain ⟨Am, cm, em⟩ := Kd.R_slice HV.out; subst em; have hfz := blk_frozen BK48.out 0; have hz0 : w13.cell? ⟨g48, 0, none⟩ = some (.slice none 0 0) := (blk_cell BK48.out 0).trans rfl)) | ((with_reducible refine gate_store (t := 48) (p := 6) rfl ?_); go_must (refine store_event (t := 48) (p := 6) (v := ?vp14_) (w1 := (w13.setCell ⟨g48, 0, none⟩ (.slice Am m.length cm))) ?hg ?ho ?hn ?hr ?_; (case ho => rfl); (case hg => rfl); (case hn => rfl); (case hr => first | (go_simp; done) | (go_simp; rfl)); intro w14 hw; have n_ := aK (show Below w.heap.size w w14 by rw [hw]; exact below_set HB.out GB48.out); have nv := aK (show Kd.R (Kd.slice 4 Kd.bool) 52 w14 w.heap.size (fun _ => True) (.slice Am m.length cm) m by rw [hw]; exact Kd.R_set HV.out BK48.out (by decide) 0 _); have nb := aK (show w14.heap[g]? = some (.cells #[.int .i64 n] 3 (0, 0)) by rw [hw]; exact blk_far BK.out (blk_ne BK.out BK48.out (by decide)) _); have nk := aK (show w14.heap[g48]? = some (.cells #[.slice Am m.length cm] 48 (0, 0)) by rw [hw]; exact blk_put BK48.out 0 _ rfl); clear HB HV BK48 hz0 hfz hw; have HB := n_; have HV := nv; have BK48 := nk; clear n_ nv nk; clear BK hzz; have BK := nb; clear nb; have hzz : w14.cell? ⟨g, 0, none⟩ = some (.int .i64 n) := (blk_cell BK.out 0).trans rfl; skip)))
  go_ret2
  exact ⟨_, rfl, Kd.R_nil _ _ _ _ _, HB.out⟩
end Go.Proofs.Ytbbkclcfmcjlgaa.P



namespace Go.Proofs.Ytbbkclcfmcjlgaa.P
open Go.RowKit Go.Proofs.YtbbkclcfmcjlgaaW.PrintWords Go.Proofs.YtbbkclcfmcjlgaaW.PrintLast Go.Proofs.YtbbkclcfmcjlgaaW.PrintMore
set_option linter.unusedVariables false
set_option linter.unusedSimpArgs false

def slices_Clone_int_int.f (l0 : List Int) : Option (List Int) := if l0.length < 17592186044416 then some l0 else none
set_option maxHeartbeats 1000000 in
set_option maxRecDepth 100000 in
theorem slices_Clone_int_int.calls_of (A0 : Option Addr) (c0 : Nat) (l0 : List Int) (w : World) (hr0 : Kd.C (Kd.int .i64) w A0 l0.length l0) (hl : l0.length < 17592186044416) :
  Calls Try.prog 53 #[.slice A0 l0.length c0] w fun e w' => ∃ v0_ : Value, e = .returned (v0_) ∧ Kd.R (Kd.int .i64) 3 w' w.heap.size (fun _ => True) v0_ l0 ∧ Below w.heap.size w w' := by
 cases A0 with
 | none =>
  have h0 : l0 = [] := by
   rcases Nat.eq_zero_or_pos l0.length with h0 | h0
   ·exact List.eq_nil_of_length_eq_zero h0
   ·obtain ⟨ad, h, _⟩ := hr0.2.2 h0
    cases h
  subst h0
  have hq := fun (W : World) => Lib.run_eql_slice_nil (P := Try.prog) W 31 3 none 0 c0 0 0 Try.underlying31
  clear hr0
  go_enter Try.func53, Try.ntmps53
  go_wp2_with fail
  go_ret
  exact ⟨_, rfl, Kd.R_nil _ _ _ _ _, Below.refl _ _⟩
 | some ad =>
  have HR := aK hr0; clear hr0
  have hq := fun (W : World) => Lib.run_eql_slice_nil (P := Try.prog) W 31 3 (some ad) l0.length c0 0 0 Try.underlying31
  go_enter Try.func53, Try.ntmps53
  go_wp2_with (first | ((with_reducible refine gate_dst (N := 5) rfl ?_); go_must (refine Kd.R_lit (Kd.int .i64) (w0 := w) w.heap.size 3 ?hg (N := 5) ?hd (xs := []) (inner := []) (ok := fun _ => True) (okp := fun _ => False) ?hr (Reps.none _ _) (fun _ hk => hk.elim) trivial (Below.refl _ _) (Nat.le_refl _) (by simp) ?_; (case hd => rfl); (case hg => rfl); (case hr => first | (go_simp; done) | (go_simp; rfl)); intro v1 w1 ho hb hg hat; have HO1 := aK ho; have HB1 := aK hb; have HSl := Kd.R_slice ho; obtain ⟨A1, c1, rfl⟩ := HSl; clear ho hb hg hat)) | ((with_reducible refine gate_builtin (b := .append) (xs := #[.tmp 5, .tmp 6]) rfl ?_); go_must (at_builtin; refine Kd.R_append_rows (Kd.int .i64) (Rr := (Kd.int .i64).K w1) (w0 := w) w.heap.size rfl (.tmp 5) (.tmp 6) 31 3 (.int .i64 0) 8 rfl Try.underlying31 info3 rfl (by decide) (by omega) _ [] l0 (some ad) l0.length c0 (fun _ => True) (fun _ => False) rfl rfl HO1.out (Kd.C_below HR.out HB1.out) ?aK (fun _ hk => hk.elim) (fun _ _ => trivial) HB1.out HB1.out.size ?aL ?_; (case aK => exact fun _ _ h => h); (case aL => simp; omega); intro v2 w2 ho hb hg hat; have HO2 := aK ho; have HB2 := aK hb; clear ho hb hg hat)))
  go_ret
  exact ⟨_, rfl, by have := HO2.out; rwa [List.nil_append] at this, HB2.out⟩
theorem slices_Clone_int_int.calls (A0 : Option Addr) (c0 : Nat) (l0 : List Int) (r : List Int) (w : World) (hr0 : Kd.C (Kd.int .i64) w A0 l0.length l0) (hc0 : l0.length ≤ c0) (h : slices_Clone_int_int.f l0 = some r) :
  Calls Try.prog 53 #[.slice A0 l0.length c0] w fun e w' => ∃ v0_ : Value, e = .returned (v0_) ∧ Kd.R (Kd.int .i64) 3 w' w.heap.size (fun _ => True) v0_ r ∧ Below w.heap.size w w' := by
 unfold slices_Clone_int_int.f at h
 split at h
 ·rename_i hl
  obtain rfl := Option.some.inj h
  exact slices_Clone_int_int.calls_of A0 c0 l0 w hr0 hl
 ·cases h
end Go.Proofs.Ytbbkclcfmcjlgaa.P



namespace Go.Proofs.Ytbbkclcfmcjlgaa.P
open Go.RowKit Go.Proofs.YtbbkclcfmcjlgaaW.PrintWords Go.Proofs.YtbbkclcfmcjlgaaW.PrintLast Go.Proofs.YtbbkclcfmcjlgaaW.PrintMore
set_option linter.unusedVariables false
set_option linter.unusedSimpArgs false

mutual
def visit.f (bh : List (List Int)) : Nat → Int → List Bool → List Int → List Int → Option (List Int × List Bool × List Int × List Int)
 | 0, _, _, _, _ => none
 | k + 1, i, D, T, P => if 0 ≤ i ∧ i < (T.length : Int) ∧ i < (D.length : Int) ∧ i < (bh.length : Int) ∧ P.length < 1000000 then (if rd T i > 0 then (if rd T i ≤ (P.length : Int) then some (P.drop (rd T i - 1).toNat, D, T, P) else none)
   else (if rdOf false D i = true then some ([], D, T, P) else visit.l0 bh k i 0 D (T.set i.toNat (P.length + 1)) (P ++ [i]))) else none
def visit.l0 (bh : List (List Int)) : Nat → Int → Int → List Bool → List Int → List Int → Option (List Int × List Bool × List Int × List Int)
 | 0, _, _, _, _, _ => none
 | k + 1, i, x, D, T, P => if x < ((bh.getD i.toNat []).length : Int) then (if 0 ≤ x then ((visit.f bh k (rd (bh.getD i.toNat []) x) D T P).bind fun u => if u.1 = [] then visit.l0 bh k i (wrap64 (x + 1)) u.2.1 u.2.2.1 u.2.2.2 else some u) else none)
   else (if 1 ≤ P.length then some ([], D.set i.toNat true, T.set i.toNat 0, P.take (P.length - 1)) else none)
end
theorem visit.mono_l (bh : List (List Int)) : ∀ k, (∀ i D T P, LeO (visit.f bh k i D T P) (visit.f bh (k + 1) i D T P)) ∧ (∀ i x D T P, LeO (visit.l0 bh k i x D T P) (visit.l0 bh (k + 1) i x D T P))
 | 0 => ⟨fun _ _ _ _ r h => by simp [visit.f] at h, fun _ _ _ _ _ r h => by simp [visit.l0] at h⟩
 | k + 1 => by
  obtain ⟨ih0, ih1⟩ := visit.mono_l bh k
  refine ⟨fun i D T P => ?_, fun i x D T P => ?_⟩
  ·rw [visit.f, visit.f]
   exact LeO.ite (LeO.ite (LeO.refl _) (LeO.ite (LeO.refl _) (ih1 _ _ _ _ _))) (LeO.none _)
  ·rw [visit.l0, visit.l0]
   exact LeO.ite (LeO.ite (LeO.bind (ih0 _ _ _ _) (fun u => LeO.ite (ih1 _ _ _ _ _) (LeO.refl _))) (LeO.none _)) (LeO.refl _)

structure EnvW (base N1 g ga gd : Nat) (bh : List (List Int)) (Ab : Option Addr) (cb nD cd nA ca : Nat) (w W : World) (D : List Bool) (T P : List Int) (vp : Value) : Prop where
 bk : W.heap[g]? = some (.cells #[.slice Ab bh.length cb, .slice (some ⟨gd, 0, none⟩) nD cd, .slice (some ⟨ga, 0, none⟩) nA ca, vp] 63 (0, 0))
 r : Kd.R (Kd.slice 3 (Kd.int .i64)) 31 W base (fun k => k ≠ ga ∧ k < N1) (.slice Ab bh.length cb) bh
 d : Kd.R Kd.bool 4 W base (fun _ => True) (.slice (some ⟨gd, 0, none⟩) nD cd) D
 a : Kd.R (Kd.int .i64) 3 W base (fun k => k = ga) (.slice (some ⟨ga, 0, none⟩) nA ca) T
 p : Kd.R (Kd.int .i64) 3 W base (fun k => N1 ≤ k) vp P
 b : Below base w W
 n : N1 ≤ W.heap.size
 h : ga < N1
 o : base ≤ g
section
variable {base N1 g ga gd : Nat} {bh : List (List Int)} {Ab : Option Addr} {cb nD cd nA ca : Nat} {w W W1 : World} {D : List Bool} {T P : List Int} {vp : Value}
theorem EnvW.step (h : EnvW base N1 g ga gd bh Ab cb nD cd nA ca w W D T P vp) (hb : Below W.heap.size W W1) (hbase : base ≤ W.heap.size) : EnvW base N1 g ga gd bh Ab cb nD cd nA ca w W1 D T P vp :=
 ⟨(hb.block _ (blk_lt h.bk)).trans h.bk, Kd.R_below h.r hb, Kd.R_below h.d hb, Kd.R_below h.a hb, Kd.R_below h.p hb, h.b.trans (hb.mono hbase), Nat.le_trans h.n hb.size, h.h, h.o⟩
theorem EnvW.base_le (h : EnvW base N1 g ga gd bh Ab cb nD cd nA ca w W D T P vp) : base ≤ W.heap.size := by
 have h1 := blk_lt h.bk
 have h2 := h.o
 omega
theorem EnvW.drew (h : EnvW base N1 g ga gd bh Ab cb nD cd nA ca w W D T P vp) : EnvW base N1 g ga gd bh Ab cb nD cd nA ca w W.drew D T P vp := h.step (bD_ (Below.refl _ _)) h.base_le
theorem EnvW.z0 (h : EnvW base N1 g ga gd bh Ab cb nD cd nA ca w W D T P vp) : W.cell? ⟨g, 0, none⟩ = some (.slice Ab bh.length cb) := (blk_cell h.bk 0).trans rfl
theorem EnvW.z1 (h : EnvW base N1 g ga gd bh Ab cb nD cd nA ca w W D T P vp) : W.cell? ⟨g, 1, none⟩ = some (.slice (some ⟨gd, 0, none⟩) nD cd) := (blk_cell h.bk 1).trans rfl
theorem EnvW.z2 (h : EnvW base N1 g ga gd bh Ab cb nD cd nA ca w W D T P vp) : W.cell? ⟨g, 2, none⟩ = some (.slice (some ⟨ga, 0, none⟩) nA ca) := (blk_cell h.bk 2).trans rfl
theorem EnvW.z3 (h : EnvW base N1 g ga gd bh Ab cb nD cd nA ca w W D T P vp) : W.cell? ⟨g, 3, none⟩ = some vp := (blk_cell h.bk 3).trans rfl
theorem EnvW.lenA (h : EnvW base N1 g ga gd bh Ab cb nD cd nA ca w W D T P vp) : nA = T.length := (Kd.R_reads' h.a).1
theorem EnvW.lenD (h : EnvW base N1 g ga gd bh Ab cb nD cd nA ca w W D T P vp) : nD = D.length := (Kd.R_reads' h.d).1
theorem EnvW.setA (h : EnvW base N1 g ga gd bh Ab cb nD cd nA ca w W D T P vp) (i x : Int) : EnvW base N1 g ga gd bh Ab cb nD cd nA ca w (W.setCell ⟨ga, i.toNat, none⟩ (.int .i64 x)) D (T.set i.toNat x) P vp := by
 obtain ⟨cells, hc⟩ := Kd.R_typed h.a ga rfl
 have hbase := Kd.R_base h.a ga rfl
 exact ⟨blk_far h.bk (blk_ne h.bk hc (by decide)) _, Kd.R_far h.r (fun k hk => hk.1) _, Kd.R_set h.d hc (by decide) _ _, (Kd.R_putg h.a i x).1, Kd.R_far h.p (fun k hk he => by have := h.h; simp at he; omega) _, h.b.setCell hbase _, by simpa using h.n, h.h, h.o⟩
theorem EnvW.setD (h : EnvW base N1 g ga gd bh Ab cb nD cd nA ca w W D T P vp) (i : Int) (x : Bool) : EnvW base N1 g ga gd bh Ab cb nD cd nA ca w (W.setCell ⟨gd, i.toNat, none⟩ (.bool x)) (D.set i.toNat x) T P vp := by
 obtain ⟨cells, hc⟩ := Kd.R_typed h.d gd rfl
 have hbase := Kd.R_base h.d gd rfl
 exact ⟨blk_far h.bk (blk_ne h.bk hc (by decide)) _, Kd.R_set h.r hc (by decide) _ _, (Kd.R_putg h.d i x).1, Kd.R_set h.a hc (by decide) _ _, Kd.R_set h.p hc (by decide) _ _, h.b.setCell hbase _, by simpa using h.n, h.h, h.o⟩
theorem EnvW.setP (h : EnvW base N1 g ga gd bh Ab cb nD cd nA ca w W D T P vp) {v1 : Value} {P1 : List Int} (hp : Kd.R (Kd.int .i64) 3 W base (fun k => N1 ≤ k) v1 P1) : EnvW base N1 g ga gd bh Ab cb nD cd nA ca w (W.setCell ⟨g, 3, none⟩ v1) D T P1 v1 :=
 ⟨blk_put h.bk 3 _ rfl, Kd.R_set h.r h.bk (by decide) _ _, Kd.R_set h.d h.bk (by decide) _ _, Kd.R_set h.a h.bk (by decide) _ _, Kd.R_set hp h.bk (by decide) _ _, h.b.setCell h.o _, by simpa using h.n, h.h, h.o⟩
theorem EnvW.grow (h : EnvW base N1 g ga gd bh Ab cb nD cd nA ca w W D T P vp) {v1 : Value} {P1 : List Int} (hp : Kd.R (Kd.int .i64) 3 W1 base (fun k => N1 ≤ k) v1 P1) (hb : Below base w W1) (hg : W.grownBy W1 vp.ownBlock) :
  EnvW base N1 g ga gd bh Ab cb nD cd nA ca w (W1.setCell ⟨g, 3, none⟩ v1) D T P1 v1 ∧ W1.cell? ⟨g, 3, none⟩ = some vp ∧ W1.frozen? ⟨g, 3, none⟩ = false := by
 have hbk := blk_grown h.bk hg (Kd.R_ne h.p h.bk (by decide))
 have hpo : ∀ k, vp.ownBlock = some k → N1 ≤ k := fun k hk => h.p.1 k hk
 exact ⟨⟨blk_put hbk 3 _ rfl, Kd.R_set (Kd.R_grown h.r hg (fun k hk e => by have := hpo k e.symm; have := hk.2; omega)) hbk (by decide) _ _, Kd.R_set (Kd.R_over h.d h.p (by decide) hg) hbk (by decide) _ _, Kd.R_set (Kd.R_grown h.a hg (fun k hk e => by have := hpo k e.symm; have := h.h; omega)) hbk (by decide) _ _, Kd.R_set hp hbk (by decide) _ _, hb.setCell h.o _, by have := hg.size; have := h.n; simp; omega, h.h, h.o⟩, (blk_cell hbk 3).trans rfl, blk_frozen hbk 3⟩
end

def SV (N1 g ga gd : Nat) (k : Nat) : Prop := k = g ∨ k = ga ∨ k = gd ∨ N1 ≤ k
def VisPost (base N1 g ga gd : Nat) (bh : List (List Int)) (Ab : Option Addr) (cb nD cd nA ca : Nat) (w W : World) (r : List Int) (D' : List Bool) (T' P' : List Int) (e : Ending) (W' : World) : Prop :=
 ∃ vr vp', e = .returned vr ∧ (r = [] → vr = .slice none 0 0) ∧ Kd.R (Kd.int .i64) 3 W' base (fun _ => True) vr r ∧ EnvW base N1 g ga gd bh Ab cb nD cd nA ca w W' D' T' P' vp' ∧ Kept W W' (SV N1 g ga gd)
theorem cut_facts {W : World} {base : Nat} {ok : Nat → Prop} {A : Option Addr} {c m : Nat} {P : List Int} (h : Kd.R (Kd.int .i64) 3 W base ok (.slice A P.length c) P) (hm : P.length = m + 1) : wrap64 (m : Int) = m ∧ ((m : Int) ≤ (c : Int)) = True ∧ (m ≤ c) = True := by
 have h1 := (Kd.R_reads' h).2.1
 have h2 := Kd.C_max (Kd.R_reads' h).2.2
 exact ⟨by unfold wrap64; omega, eq_true (by omega), eq_true (by omega)⟩
theorem R_len_nil {W : World} {base : Nat} {ok : Nat → Prop} {v : Value} {xs : List Int} (h : Kd.R (Kd.int .i64) 3 W base ok v xs) (hx : ¬ xs = []) : ∃ ad c, v = .slice (some ad) xs.length c := Kd.R_slice1 h (List.length_pos_iff.2 hx)

set_option maxHeartbeats 16000000 in
set_option maxRecDepth 100000 in
theorem visit.calls (base N1 g ga gd : Nat) (bh : List (List Int)) (Ab : Option Addr) (cb nD cd nA ca : Nat) (w : World) (hw : base ≤ w.heap.size) (k : Nat) : ∀ (i : Int) (D : List Bool) (T P : List Int) (r : List Int) (D' : List Bool) (T' P' : List Int) (vp : Value) (W : World),
  EnvW base N1 g ga gd bh Ab cb nD cd nA ca w W D T P vp → visit.f bh k i D T P = some (r, D', T', P') →
  Calls Try.prog 43 #[.pointer (some ⟨g, 0, none⟩), .int .i64 i] W (VisPost base N1 g ga gd bh Ab cb nD cd nA ca w W r D' T' P') := by
 have hu63 := Try.underlying63
 obtain ⟨i3, hi3, hz3_⟩ := Option.map_eq_some_iff.1 info3
 simp only [Prod.mk.injEq] at hz3_
 obtain ⟨_, hs3, _⟩ := hz3_
 have HI3 := aK (And.intro hi3 hs3)
 clear hi3 hs3
 induction k using Nat.strongRecOn with
 | _ k ih =>
 intro i D T P r D' T' P' vp W hE h
 cases k with
 | zero => exact absurd h (by simp [visit.f])
 | succ k =>
 rw [visit.f] at h
 by_cases q : 0 ≤ i ∧ i < (T.length : Int) ∧ i < (D.length : Int) ∧ i < (bh.length : Int) ∧ P.length < 1000000
 ·rw [if_pos q] at h; have HE := aK hE; have HQ := aK q
  have q0' := eq_true q.1
  have q1' : (i < (nA : Int)) = True := eq_true (by rw [hE.lenA]; exact q.2.1)
  have q2' : (i < (nD : Int)) = True := eq_true (by rw [hE.lenD]; exact q.2.2.1)
  have q3' := eq_true q.2.2.2.1
  obtain ⟨hx0, _⟩ := Kd.R_celln 0 hE.a i q.1 (by rw [hE.lenA]; exact q.2.1)
  have hx : W.cell? ⟨ga, i.toNat, none⟩ = some (.int .i64 (rd T i)) := hx0
  have hz2 := hE.z2
  clear q hE hx0
  by_cases c1 : rd T i > 0
  ·rw [if_pos c1] at h
   by_cases c2 : rd T i ≤ (P.length : Int)
   ·rw [if_pos c2] at h
    simp only [Option.some.injEq, Prod.mk.injEq] at h
    obtain ⟨rfl, rfl, rfl, rfl⟩ := h
    obtain ⟨j, hj⟩ : ∃ j : Int, rd T i = j + 1 := ⟨rd T i - 1, by omega⟩
    rw [hj] at hx c1 c2 ⊢
    rw [show j + 1 - 1 = j by omega]
    have j0 : 0 ≤ j := by omega
    have j1 : j < (P.length : Int) := by omega
    have c1b : decide (j + 1 > 0) = true := decide_eq_true c1
    have c1c : decide (0 < j + 1) = true := decide_eq_true c1
    have jm : j ≤ 1000000 := by have := HQ.out.2.2.2.2; omega
    obtain ⟨adp, cp, ev⟩ := Kd.R_slice1 HE.out.p (by omega)
    subst ev
    have hz3 := HE.out.z3
    have hcap := (Kd.R_reads' HE.out.p).2.1
    have hC := Kd.C_drew (Kd.C_drop (m := j.toNat) (c := cp) (Kd.R_reads' HE.out.p).2.2 (by omega) hcap)
    rw [show (Kd.int .i64).sz = 1 from rfl, if_neg (by omega), Nat.mul_one] at hC
    have hC : Kd.C (Kd.int .i64) W.drew (some (adp.add j.toNat)) (P.drop j.toNat).length (P.drop j.toNat) := hC
    have hlen2 : P.length - j.toNat = (P.drop j.toNat).length := List.length_drop.symm
    generalize hdr : P.drop j.toNat = P2 at hlen2 hC
    have hwj : wrap64 j = j := by unfold wrap64; omega
    have j0' := eq_true j0
    have j1' : (j ≤ (P.length : Int)) = True := eq_true (by omega)
    have hcne : (cp = j.toNat) = False := eq_false (by omega)
    have hne : ¬ P2 = [] := by rw [← hdr]; intro e; have := congrArg List.length e; rw [List.length_drop] at this; simp at this; omega
    have hl2 : P2.length < 17592186044416 := by rw [← hdr, List.length_drop]; have := HQ.out.2.2.2.2; omega
    have HC := aK hC; have HNE := aK hne; have HL2 := aK hl2
    have HJ := aK (And.intro j0 j1)
    clear hC hne hl2 hdr c1 c2 hj ih hcap j1
    go_enter Try.func43, Try.ntmps43
    go_wp2
    have HEd := aK HE.out.drew
    have HKW := aK ((Kept.refl W (SV N1 g ga gd)).drew)
    refine start_ (n := 15) (S := fun w' => w'.cell? ⟨g, 3, none⟩ = some (.slice (some adp) P.length cp) ∧ w'.cell? ⟨g, 2, none⟩ = some (.slice (some ⟨ga, 0, none⟩) nA ca) ∧ w'.cell? ⟨ga, i.toNat, none⟩ = some (.int .i64 (j + 1))) (ds := [13]) #[false, false, false, false, false, false, false, false, false, false, false, false, false, false, false] (by kernel_rfl) rfl rfl ⟨hz3, hz2, hx⟩ (fun hHeld => ?_)
    generalize W.drew = wd at HEd HKW HC hHeld ⊢
    refine pure_ (i := 0) (N := some 16) (v := ?_) (a' := ?_) #[true, false, false, false, false, false, false, false, false, false, false, false, false, false, false] rfl rfl (by kernel_rfl) (fun _ _ _ h => h) (Or.inl ⟨by rfl, ?_⟩) ?_ ?_
    rotate_left; ·intro w'; go_simp; with_reducible rfl
    rotate_left; ·simp only [Act.put, sA_, sZ_, sS_, i64_w, i32_w]; rfl
    refine pure_ (i := 1) (N := some 17) (v := ?_) (a' := ?_) #[true, true, false, false, false, false, false, false, false, false, false, false, false, false, false] rfl rfl (by kernel_rfl) (fun _ _ _ h => h) (Or.inl ⟨by rfl, ?_⟩) ?_ ?_
    rotate_left; ·intro w'; go_simp; with_reducible rfl
    rotate_left; ·simp only [Act.put, sA_, sZ_, sS_, i64_w, i32_w]; rfl
    refine pure_ (i := 2) (N := some 18) (v := ?_) (a' := ?_) #[true, true, true, false, false, false, false, false, false, false, false, false, false, false, false] rfl rfl (by kernel_rfl) (fun _ _ _ h => h) (Or.inl ⟨by rfl, ?_⟩) ?_ ?_
    rotate_left; ·intro w'; go_simp; with_reducible rfl
    rotate_left; ·simp only [Act.put, sA_, sZ_, sS_, i64_w, i32_w]; rfl
    refine pure_ (i := 4) (N := some 20) (v := ?_) (a' := ?_) #[true, true, true, false, true, false, false, false, false, false, false, false, false, false, false] rfl rfl (by kernel_rfl) (fun _ _ _ h => h) (Or.inl ⟨by rfl, ?_⟩) ?_ ?_
    rotate_left; ·intro w'; go_simp; with_reducible rfl
    rotate_left; ·simp only [Act.put, sA_, sZ_, sS_, i64_w, i32_w]; rfl
    refine pure_ (i := 5) (N := some 21) (v := ?_) (a' := ?_) #[true, true, true, false, true, true, false, false, false, false, false, false, false, false, false] rfl rfl (by kernel_rfl) (fun _ _ _ h => h) (Or.inl ⟨by rfl, ?_⟩) ?_ ?_
    rotate_left; ·intro w'; go_simp; with_reducible rfl
    rotate_left; ·simp only [Act.put, sA_, sZ_, sS_, i64_w, i32_w]; rfl
    refine pure_ (i := 6) (N := some 22) (v := ?_) (a' := ?_) #[true, true, true, false, true, true, true, false, false, false, false, false, false, false, false] rfl rfl (by kernel_rfl) (fun _ _ _ h => h) (Or.inl ⟨by rfl, ?_⟩) ?_ ?_
    rotate_left; ·intro w'; go_simp; with_reducible rfl
    rotate_left; ·simp only [Act.put, sA_, sZ_, sS_, i64_w, i32_w]; rfl
    refine pure_ (i := 8) (N := some 24) (v := ?_) (a' := ?_) #[true, true, true, false, true, true, true, false, true, false, false, false, false, false, false] rfl rfl (by kernel_rfl) (fun _ _ _ h => h) (Or.inl ⟨by rfl, ?_⟩) ?_ ?_
    rotate_left; ·intro w'; go_simp; with_reducible rfl
    rotate_left; ·simp only [Act.put, sA_, sZ_, sS_, i64_w, i32_w]; rfl
    refine take_ (i := 3) (N := some 19) (v := ?_) (a' := ?_) #[true, true, true, true, true, true, true, false, true, false, false, false, false, false, false] rfl rfl (by kernel_rfl) (fun _ _ _ h => h) (Or.inl ⟨by rfl, ?_⟩) hHeld ?_ ?_
    rotate_left
    ·rintro w' ⟨s0, s1, s2⟩; go_simp; with_reducible rfl
    rotate_left; ·simp only [Act.put, sA_, sZ_, sS_, i64_w, i32_w]; rfl
    refine take_ (i := 7) (N := some 23) (v := ?_) (a' := ?_) #[true, true, true, true, true, true, true, true, true, false, false, false, false, false, false] rfl rfl (by kernel_rfl) (fun _ _ _ h => h) (Or.inl ⟨by rfl, ?_⟩) hHeld ?_ ?_
    rotate_left
    ·rintro w' ⟨s0, s1, s2⟩; go_simp; with_reducible rfl
    rotate_left; ·simp only [Act.put, sA_, sZ_, sS_, i64_w, i32_w]; rfl
    refine pure_ (i := 9) (N := some 25) (v := ?_) (a' := ?_) #[true, true, true, true, true, true, true, true, true, true, false, false, false, false, false] rfl rfl (by kernel_rfl) (fun _ _ _ h => h) (Or.inl ⟨by rfl, ?_⟩) ?_ ?_
    rotate_left; ·intro w'; go_simp; with_reducible rfl
    rotate_left; ·simp only [Act.put, sA_, sZ_, sS_, i64_w, i32_w]; rfl
    refine take_ (i := 10) (N := some 26) (v := ?_) (a' := ?_) #[true, true, true, true, true, true, true, true, true, true, true, false, false, false, false] rfl rfl (by kernel_rfl) (fun _ _ _ h => h) (Or.inl ⟨by rfl, ?_⟩) hHeld ?_ ?_
    rotate_left
    ·rintro w' ⟨s0, s1, s2⟩; go_simp; with_reducible rfl
    rotate_left; ·simp only [Act.put, sA_, sZ_, sS_, i64_w, i32_w]; rfl
    refine pure_ (i := 11) (N := some 27) (v := ?_) (a' := ?_) #[true, true, true, true, true, true, true, true, true, true, true, true, false, false, false] rfl rfl (by kernel_rfl) (fun _ _ _ h => h) (Or.inl ⟨by rfl, ?_⟩) ?_ ?_
    rotate_left; ·intro w'; go_simp; with_reducible rfl
    rotate_left; ·simp only [Act.put, sA_, sZ_, sS_, i64_w, i32_w]; rfl
    refine pure_ (i := 12) (N := some 28) (v := ?_) (a' := ?_) #[true, true, true, true, true, true, true, true, true, true, true, true, true, false, false] rfl rfl (by kernel_rfl) (fun _ _ _ h => h) (Or.inl ⟨by rfl, ?_⟩) ?_ ?_
    rotate_left; ·intro w'; go_simp; with_reducible rfl
    rotate_left; ·simp only [Act.put, sA_, sZ_, sS_, i64_w, i32_w]; rfl
    refine last_ (i := 13) (N := some 29) #[true, true, true, true, true, true, true, true, true, true, true, true, true, true, false] rfl rfl (by kernel_rfl) (by decide) (fun K hK => ?_)
    refine goes_ Try.func53 (by kernel_rfl) rfl #[.slice (some (adp.add j.toNat)) P2.length (cp - j.toNat)] (by rfl) rfl rfl (by simp only [List.map_toArray, List.map_cons, List.map_nil]; rfl) ?_
    with_reducible refine (slices_Clone_int_int.calls_of (some (adp.add j.toNat)) (cp - j.toNat) P2 _ ?cl1 ?cl2).mono ?_
    (case cl1 => exact HC.out)
    (case cl2 => exact HL2.out)
    rintro e w2 ⟨vr, rfl, ho, hb⟩
    refine ⟨_, rfl, ?_⟩
    have HO := aK (Kd.R_lower ho HEd.out.base_le)
    have HE2 := aK (HEd.out.step hb HEd.out.base_le)
    have HK2 := aK (HKW.out.below hb)
    clear ho hb
    refine hK.out _ _ ?_
    clear hK K
    refine norm_ (a' := ?_) ?_ ?_
    rotate_left
    ·show Act.put _ (some 29) _ = _
     simp only [Act.put, sA_, sZ_, sS_, i64_w, i32_w]; rfl
    refine pure_ (i := 14) (N := some 4) (v := ?_) (a' := ?_) #[true, true, true, true, true, true, true, true, true, true, true, true, true, true, true] rfl rfl (by kernel_rfl) (fun _ _ _ h => h) (Or.inl ⟨by rfl, ?_⟩) ?_ ?_
    rotate_left; ·intro w'; go_simp; with_reducible rfl
    rotate_left; ·simp only [Act.put, sA_, sZ_, sS_, i64_w, i32_w]; rfl
    refine done_ (by kernel_rfl) ?_
    go_wp2; go_ret
    exact ⟨_, _, rfl, fun e => absurd e HNE.out, HO.out, HE2.out, HK2.out⟩
   ·rw [if_neg c2] at h; cases h
  ·rw [if_neg c1] at h
   have c1b : decide (rd T i > 0) = false := decide_eq_false c1
   have c1c : decide (0 < rd T i) = false := decide_eq_false c1
   generalize rd T i = v at hx c1 c1b c1c
   obtain ⟨hd0, _⟩ := Kd.R_celln false HE.out.d i HQ.out.1 (by rw [HE.out.lenD]; exact HQ.out.2.2.1)
   have hz1 := HE.out.z1
   by_cases c3 : rdOf false D i = true
   ·rw [if_pos c3] at h; rw [c3] at hd0
    simp only [Option.some.injEq, Prod.mk.injEq] at h
    obtain ⟨rfl, rfl, rfl, rfl⟩ := h
    clear c1 c3 ih
    go_enter Try.func43, Try.ntmps43
    go_wp2; go_ret
    exact ⟨_, _, rfl, fun _ => rfl, Kd.R_nil _ _ _ _ _, HE.out, Kept.refl _ _⟩
   ·rw [if_neg c3] at h; rw [show rdOf false D i = false by simpa using c3] at hd0; have HH := aK h; have IH := aK ih
    have hz3 := HE.out.z3
    have HKW := aK (Kept.refl W (SV N1 g ga gd))
    obtain ⟨P1, hP1⟩ : ∃ P1 : List Int, P1 = P ++ [i] := ⟨_, rfl⟩
    have HP1 := aK hP1
    have hl1 : P1.length = P.length + 1 := by rw [hP1]; simp
    have HL1 := aK hl1; clear c1 c3 ih h hP1 hl1
    go_enter Try.func43, Try.ntmps43
    go_wp2_with (first | ((with_reducible refine gate_builtin (b := .append) (xs := #[.tmp 41, .tmp 43]) rfl ?_); go_must (at_builtin; refine Kd.R_append (Kd.int .i64) (w0 := w) base rfl (.tmp 41) (.tmp 43) 31 3 (.int .i64 0) 8 rfl Try.underlying31 info3 rfl (by decide) (by omega) _ P i [.int .i64 i] (fun k => N1 ≤ k) (fun _ => False) rfl rfl ?aP (fun _ hk => hk.elim) ?aF HE.out.p HE.out.b HE.out.base_le ?aL ?_; (case aP => exact (show Kd.M (Kd.int .i64) _ _ _ i [.int .i64 i] from rfl)); (case aF => exact (fun k_ hk => Nat.le_trans HE.out.n hk)); (case aL => (have := HQ.out.2.2.2.2; omega)); intro v1 w1 ho hb hg hat; rw [← HP1.out] at ho; have HGR := aK (HE.out.grow ho hb hg); have hkw := aK (Kept.of_grown hg HKW.out (fun k hk => .inl (.inr (.inr (.inr (HE.out.p.1 k hk)))))); have hcz := HGR.out.2.1; have hfz := HGR.out.2.2; obtain ⟨A1, ca1, e1⟩ := Kd.R_slice ho; subst e1; clear HKW ho hb hg hat hz3 hx hd0 hz1 hz2; have HKW := hkw; clear hkw)) | ((with_reducible refine gate_store (t := 31) (p := 46) rfl ?_); go_must (refine store_event (t := 31) (p := 46) (v := ?vo1_) (w1 := (w1.setCell ⟨g, 3, none⟩ (.slice A1 P1.length ca1))) ?hg ?ho ?hn ?hr ?_; (case ho => rfl); (case hg => rfl); (case hn => rfl); (case hr => first | (go_simp; done) | (go_simp; rfl)); intro w2 hw2; have HE2 := aK HGR.out.1; have hkw := aK (HKW.out.setCell (p := ⟨g, 3, none⟩) (.inl (.inl rfl)) (.slice A1 P1.length ca1)); rw [← hw2] at HE2 hkw; clear HKW HGR hcz hfz hw2 HE; have HE := HE2; have HKW := hkw; clear HE2 hkw)))
    have hz2 := HE.out.drew.z2
    have hz3 := HE.out.drew.z3
    have HE := aK HE.out.drew
    have HKW := aK HKW.out.drew
    refine start_ (n := 12) (S := fun w' => w'.cell? ⟨g, 2, none⟩ = some (.slice (some ⟨ga, 0, none⟩) nA ca) ∧ w'.cell? ⟨g, 3, none⟩ = some (.slice A1 P1.length ca1)) (ds := [11]) #[false, false, false, false, false, false, false, false, false, false, false, false] (by kernel_rfl) rfl rfl ⟨hz2, hz3⟩ (fun hHeld => ?_)
    generalize w2.drew = wd at HE HKW hz2 hz3 hHeld ⊢
    refine pure_ (i := 0) (N := some 47) (v := ?_) (a' := ?_) #[true, false, false, false, false, false, false, false, false, false, false, false] rfl rfl (by kernel_rfl) (fun _ _ _ h => h) (Or.inl ⟨by rfl, ?_⟩) ?_ ?_
    rotate_left; ·intro w'; go_simp; with_reducible rfl
    rotate_left; ·simp only [Act.put, sA_, sZ_, sS_, i64_w, i32_w]; rfl
    refine pure_ (i := 1) (N := some 48) (v := ?_) (a' := ?_) #[true, true, false, false, false, false, false, false, false, false, false, false] rfl rfl (by kernel_rfl) (fun _ _ _ h => h) (Or.inl ⟨by rfl, ?_⟩) ?_ ?_
    rotate_left; ·intro w'; go_simp; with_reducible rfl
    rotate_left; ·simp only [Act.put, sA_, sZ_, sS_, i64_w, i32_w]; rfl
    refine pure_ (i := 2) (N := some 49) (v := ?_) (a' := ?_) #[true, true, true, false, false, false, false, false, false, false, false, false] rfl rfl (by kernel_rfl) (fun _ _ _ h => h) (Or.inl ⟨by rfl, ?_⟩) ?_ ?_
    rotate_left; ·intro w'; go_simp; with_reducible rfl
    rotate_left; ·simp only [Act.put, sA_, sZ_, sS_, i64_w, i32_w]; rfl
    refine pure_ (i := 4) (N := some 51) (v := ?_) (a' := ?_) #[true, true, true, false, true, false, false, false, false, false, false, false] rfl rfl (by kernel_rfl) (fun _ _ _ h => h) (Or.inl ⟨by rfl, ?_⟩) ?_ ?_
    rotate_left; ·intro w'; go_simp; with_reducible rfl
    rotate_left; ·simp only [Act.put, sA_, sZ_, sS_, i64_w, i32_w]; rfl
    refine pure_ (i := 5) (N := some 52) (v := ?_) (a' := ?_) #[true, true, true, false, true, true, false, false, false, false, false, false] rfl rfl (by kernel_rfl) (fun _ _ _ h => h) (Or.inl ⟨by rfl, ?_⟩) ?_ ?_
    rotate_left; ·intro w'; go_simp; with_reducible rfl
    rotate_left; ·simp only [Act.put, sA_, sZ_, sS_, i64_w, i32_w]; rfl
    refine pure_ (i := 6) (N := some 53) (v := ?_) (a' := ?_) #[true, true, true, false, true, true, true, false, false, false, false, false] rfl rfl (by kernel_rfl) (fun _ _ _ h => h) (Or.inl ⟨by rfl, ?_⟩) ?_ ?_
    rotate_left; ·intro w'; go_simp; with_reducible rfl
    rotate_left; ·simp only [Act.put, sA_, sZ_, sS_, i64_w, i32_w]; rfl
    refine pure_ (i := 7) (N := some 54) (v := ?_) (a' := ?_) #[true, true, true, false, true, true, true, true, false, false, false, false] rfl rfl (by kernel_rfl) (fun _ _ _ h => h) (Or.inl ⟨by rfl, ?_⟩) ?_ ?_
    rotate_left; ·intro w'; go_simp; with_reducible rfl
    rotate_left; ·simp only [Act.put, sA_, sZ_, sS_, i64_w, i32_w]; rfl
    refine take_ (i := 3) (N := some 50) (v := ?_) (a' := ?_) #[true, true, true, true, true, true, true, true, false, false, false, false] rfl rfl (by kernel_rfl) (fun _ _ _ h => h) (Or.inl ⟨by rfl, ?_⟩) hHeld ?_ ?_
    rotate_left
    ·rintro w' ⟨s0, s1⟩; go_simp; with_reducible rfl
    rotate_left; ·simp only [Act.put, sA_, sZ_, sS_, i64_w, i32_w]; rfl
    refine take_ (i := 8) (N := some 55) (v := ?_) (a' := ?_) #[true, true, true, true, true, true, true, true, true, false, false, false] rfl rfl (by kernel_rfl) (fun _ _ _ h => h) (Or.inl ⟨by rfl, ?_⟩) hHeld ?_ ?_
    rotate_left
    ·rintro w' ⟨s0, s1⟩; go_simp; with_reducible rfl
    rotate_left; ·simp only [Act.put, sA_, sZ_, sS_, i64_w, i32_w]; rfl
    refine pure_ (i := 9) (N := some 56) (v := ?_) (a' := ?_) #[true, true, true, true, true, true, true, true, true, true, false, false] rfl rfl (by kernel_rfl) (fun _ _ _ h => h) (Or.inl ⟨by rfl, ?_⟩) ?_ ?_
    rotate_left; ·intro w'; go_simp; with_reducible rfl
    rotate_left; ·simp only [Act.put, sA_, sZ_, sS_, i64_w, i32_w]; rfl
    refine pure_ (i := 10) (N := some 57) (v := ?_) (a' := ?_) #[true, true, true, true, true, true, true, true, true, true, true, false] rfl rfl (by kernel_rfl) (fun _ _ _ h => h) (Or.inl ⟨by rfl, ?_⟩) ?_ ?_
    rotate_left; ·intro w'; go_simp; with_reducible rfl
    rotate_left; ·simp only [Act.put, sA_, sZ_, sS_, i64_w, i32_w]; rfl
    refine last_ (i := 11) (N := none) #[true, true, true, true, true, true, true, true, true, true, true, true] rfl rfl (by kernel_rfl) (by decide) (fun K hK => ?_)
    obtain ⟨ha_, hfa_⟩ := Kd.R_celln 0 HE.out.a i HQ.out.1 (by rw [HE.out.lenA]; exact HQ.out.2.1)
    have HE4 := aK (HE.out.setA i (P1.length : Int))
    have HKW4 := aK (HKW.out.setCell (p := ⟨ga, i.toNat, none⟩) (.inl (.inr (.inl rfl))) (.int .i64 (P1.length : Int)))
    refine skip_ (w1 := wd.setCell ⟨ga, i.toNat, none⟩ (.int .i64 (P1.length : Int))) (by rfl) rfl ?_ ?_
    ·go_simp
     try rfl
    generalize wd.setCell ⟨ga, i.toNat, none⟩ (.int .i64 (P1.length : Int)) = w4 at HE4 HKW4 ⊢
    clear ha_ hfa_ HE HKW hz2 hz3 hHeld; have HE := HE4; have HKW := HKW4; clear HE4 HKW4
    refine hK.out _ _ ?_
    clear hK K
    refine done_ (by kernel_rfl) ?_
    rw [show ((P1.length : Nat) : Int) = ((P.length : Nat) : Int) + 1 by rw [HL1.out]; rfl] at HE
    rw [HP1.out] at HE
    have hz0 := HE.out.z0
    obtain ⟨gb, cb', eb, _, _, _⟩ := Kd.R_form HE.out.r (by have := HQ.out.1; have := HQ.out.2.2.2.1; omega)
    injection eb with e1 e2 e3
    subst e1; subst e3
    obtain ⟨c3, _, ⟨v3, rfl, hr3⟩, hcc3, _⟩ := Kd.R_elem HE.out.r [] i HQ.out.1 HQ.out.2.2.2.1
    have hx3 := hcc3 0 _ rfl
    rw [Nat.add_zero, show (Kd.slice 3 (Kd.int .i64)).sz = 1 from rfl, Nat.mul_one] at hx3
    obtain ⟨A3, ca3, e3⟩ := Kd.R_slice hr3
    subst e3
    obtain ⟨ks, hks⟩ : ∃ ks : List Int, bh.getD i.toNat [] = ks := ⟨_, rfl⟩
    rw [hks] at hr3 hx3
    have HKS := aK hks
    obtain ⟨cells4, hc4⟩ := Kd.R_typed HE.out.d gd rfl
    have HR3 := aK (Kd.R_types (Kd.R_types hr3 HE.out.bk (by decide)) hc4 (by decide))
    have HMX := aK (Kd.C_max (Kd.R_reads' hr3).2.2)
    obtain ⟨wl, hwl⟩ : ∃ wl : World, wl = w4 := ⟨_, rfl⟩
    have HKL := aK (Kept.refl wl (SV N1 g ga gd))
    rw [← hwl] at HE HKW HR3 hz0 hx3 ⊢
    clear e2 hcc3 hr3 hks hc4 hwl; go_wp2
    go_loopg [66] k (fun kq v66 w' => ∃ (x : Int) (Dq : List Bool) (Tq Pq : List Int) (vq : Value), v66 = .int .i64 x ∧ Aside0 (visit.l0 bh kq i x Dq Tq Pq = some (r, D', T', P')) ∧ Aside0 (kq ≤ k) ∧ Aside0 (EnvW base N1 g ga gd bh (some ⟨gb, 0, none⟩) cb nD cd nA ca w w' Dq Tq Pq vq) ∧ Aside0 (Kept wl w' (SV N1 g ga gd)))
    case atStart => exact ⟨0, _, _, _, _, rfl, HH, ⟨Nat.le_refl _⟩, HE, HKL⟩
    case round =>
     clear HH HE hz0 hx3 HKL
     obtain ⟨x, Dq, Tq, Pq, vq, rfl, HA, HK, HE, HKL⟩ := hrel
     cases gk with
     | zero => exact absurd HA.out (by simp [visit.l0])
     | succ k1 =>
      have H := HA.out
      clear HA; rw [visit.l0, HKS.out] at H
      by_cases c : x < (ks.length : Int)
      ·rw [if_pos c] at H
       by_cases x0 : 0 ≤ x
       ·rw [if_pos x0] at H
        have HRr := Kd.R_kept HR3.out HKL.out (fun k hk hS => by rcases hS with e | e | e | e; exact hk.1.2 e; exact hk.1.1.1.1 e; exact hk.2 e; have := hk.1.1.1.2; omega)
        obtain ⟨g3, c3', e3, _, _, _⟩ := Kd.R_form HRr (by omega)
        injection e3 with e1 e2 e4
        subst e1; subst e4
        obtain ⟨hcx0, _⟩ := Kd.R_celln 0 HRr x x0 c
        have hcx : wr.cell? ⟨g3, x.toNat, none⟩ = some (.int .i64 (rd ks x)) := hcx0
        obtain ⟨⟨u, D2, T2, P2⟩, hu, H⟩ := oB_ H
        generalize rd ks x = kk at hcx hu
        have HU := aK hu
        have cb' := decide_eq_true c
        have c' := eq_true c
        have x0' := eq_true x0
        dsimp only at H
        by_cases z : u = []
        ·rw [if_pos z] at H; have HN := aK H; have HZ := aK z; clear H hu c x0 hcx0 HRr e2 z
         go_wp2_with (go_at_call 43; go_must (refine (IH.out k1 (by have := HK.out; omega) kk Dq Tq Pq u D2 T2 P2 vq _ HE.out HU.out).mono ?_; rintro e w5 ⟨vr, vp', rfl, h1, h2, h3, h4⟩; have h1' := h1 HZ.out; subst h1'; have HE5 := aK h3; have HK5 := aK (HKL.out.then_ h4 (fun _ h => .inl h)); have hq := fun (W : World) => run_neq_slice_nil (P := Try.prog) (w := W) 31 3 none 0 0 Try.underlying31; clear h1 h2 h3 h4 hcx))
         go_roundg k1
         case measure => have := HK.out; omega
         case rel => exact ⟨wrap64 (x + 1), D2, T2, P2, vp', (by first | rfl | (simp; done)), HN, ⟨by have := HK.out; omega⟩, HE5, HK5⟩
        ·rw [if_neg z] at H
         simp only [Option.some.injEq, Prod.mk.injEq] at H
         obtain ⟨rfl, rfl, rfl, rfl⟩ := H
         have HZ := aK z; clear hu c x0 hcx0 HRr e2 z
         go_wp2_with (go_at_call 43; go_must (refine (IH.out k1 (by have := HK.out; omega) kk Dq Tq Pq u D2 T2 P2 vq _ HE.out HU.out).mono ?_; rintro e w5 ⟨vr, vp', rfl, h1, h2, h3, h4⟩; obtain ⟨adr, cr, er⟩ := R_len_nil h2 HZ.out; subst er; have HE5 := aK h3; have HO5 := aK h2; have HK5 := aK (HKL.out.then_ h4 (fun _ h => .inl h)); have hq := fun (W : World) => run_neq_slice_nil (P := Try.prog) (w := W) 31 3 (some adr) u.length cr Try.underlying31; clear h1 h2 h3 h4 hcx))
         go_ret
         exact ⟨_, _, rfl, fun e => absurd e HZ.out, HO5.out, HE5.out, HKW.out.then_ HK5.out (fun _ h => .inl h)⟩
       ·rw [if_neg x0] at H; cases H
      ·rw [if_neg c] at H
       have cb' := decide_eq_false c
       by_cases pl : 1 ≤ Pq.length
       ·rw [if_pos pl] at H
        simp only [Option.some.injEq, Prod.mk.injEq] at H
        obtain ⟨rfl, rfl, rfl, rfl⟩ := H
        obtain ⟨m, hm⟩ : ∃ m : Nat, Pq.length = m + 1 := ⟨Pq.length - 1, by omega⟩
        obtain ⟨adp, cp, ev⟩ := Kd.R_slice1 HE.out.p (by omega)
        subst ev
        obtain ⟨hwm, hmc, hmc'⟩ := cut_facts HE.out.p hm
        have HTK := aK (Kd.R_take (m := m) HE.out.drew.p (by omega))
        have HE := aK HE.out.drew
        have HKL := aK HKL.out.drew
        rw [hm] at HE; have HM := aK hm; clear c pl hm
        have hz1 := HE.out.z1
        have hz2 := HE.out.z2
        have hz3 := HE.out.z3
        go_wp2
        refine start_ (n := 29) (S := fun w' => w'.cell? ⟨g, 2, none⟩ = some (.slice (some ⟨ga, 0, none⟩) nA ca) ∧ w'.cell? ⟨g, 1, none⟩ = some (.slice (some ⟨gd, 0, none⟩) nD cd) ∧ w'.cell? ⟨g, 3, none⟩ = some (.slice (some adp) (m + 1) cp)) (ds := [24, 26, 28]) #[false, false, false, false, false, false, false, false, false, false, false, false, false, false, false, false, false, false, false, false, false, false, false, false, false, false, false, false, false] (by kernel_rfl) rfl rfl ⟨hz2, hz1, hz3⟩ (fun hHeld => ?_)
        generalize wr.drew = wd at HE HKL HTK hz1 hz2 hz3 hHeld ⊢
        refine pure_ (i := 0) (N := some 77) (v := ?_) (a' := ?_) #[true, false, false, false, false, false, false, false, false, false, false, false, false, false, false, false, false, false, false, false, false, false, false, false, false, false, false, false, false] rfl rfl (by kernel_rfl) (fun _ _ _ h => h) (Or.inl ⟨by rfl, ?_⟩) ?_ ?_
        rotate_left; ·intro w'; go_simp; with_reducible rfl
        rotate_left; ·simp only [Act.put, sA_, sZ_, sS_, i64_w, i32_w]; rfl
        refine pure_ (i := 1) (N := some 78) (v := ?_) (a' := ?_) #[true, true, false, false, false, false, false, false, false, false, false, false, false, false, false, false, false, false, false, false, false, false, false, false, false, false, false, false, false] rfl rfl (by kernel_rfl) (fun _ _ _ h => h) (Or.inl ⟨by rfl, ?_⟩) ?_ ?_
        rotate_left; ·intro w'; go_simp; with_reducible rfl
        rotate_left; ·simp only [Act.put, sA_, sZ_, sS_, i64_w, i32_w]; rfl
        refine pure_ (i := 2) (N := some 79) (v := ?_) (a' := ?_) #[true, true, true, false, false, false, false, false, false, false, false, false, false, false, false, false, false, false, false, false, false, false, false, false, false, false, false, false, false] rfl rfl (by kernel_rfl) (fun _ _ _ h => h) (Or.inl ⟨by rfl, ?_⟩) ?_ ?_
        rotate_left; ·intro w'; go_simp; with_reducible rfl
        rotate_left; ·simp only [Act.put, sA_, sZ_, sS_, i64_w, i32_w]; rfl
        refine pure_ (i := 3) (N := some 80) (v := ?_) (a' := ?_) #[true, true, true, true, false, false, false, false, false, false, false, false, false, false, false, false, false, false, false, false, false, false, false, false, false, false, false, false, false] rfl rfl (by kernel_rfl) (fun _ _ _ h => h) (Or.inl ⟨by rfl, ?_⟩) ?_ ?_
        rotate_left; ·intro w'; go_simp; with_reducible rfl
        rotate_left; ·simp only [Act.put, sA_, sZ_, sS_, i64_w, i32_w]; rfl
        refine pure_ (i := 5) (N := some 82) (v := ?_) (a' := ?_) #[true, true, true, true, false, true, false, false, false, false, false, false, false, false, false, false, false, false, false, false, false, false, false, false, false, false, false, false, false] rfl rfl (by kernel_rfl) (fun _ _ _ h => h) (Or.inl ⟨by rfl, ?_⟩) ?_ ?_
        rotate_left; ·intro w'; go_simp; with_reducible rfl
        rotate_left; ·simp only [Act.put, sA_, sZ_, sS_, i64_w, i32_w]; rfl
        refine pure_ (i := 6) (N := some 83) (v := ?_) (a' := ?_) #[true, true, true, true, false, true, true, false, false, false, false, false, false, false, false, false, false, false, false, false, false, false, false, false, false, false, false, false, false] rfl rfl (by kernel_rfl) (fun _ _ _ h => h) (Or.inl ⟨by rfl, ?_⟩) ?_ ?_
        rotate_left; ·intro w'; go_simp; with_reducible rfl
        rotate_left; ·simp only [Act.put, sA_, sZ_, sS_, i64_w, i32_w]; rfl
        refine pure_ (i := 7) (N := some 84) (v := ?_) (a' := ?_) #[true, true, true, true, false, true, true, true, false, false, false, false, false, false, false, false, false, false, false, false, false, false, false, false, false, false, false, false, false] rfl rfl (by kernel_rfl) (fun _ _ _ h => h) (Or.inl ⟨by rfl, ?_⟩) ?_ ?_
        rotate_left; ·intro w'; go_simp; with_reducible rfl
        rotate_left; ·simp only [Act.put, sA_, sZ_, sS_, i64_w, i32_w]; rfl
        refine pure_ (i := 8) (N := some 85) (v := ?_) (a' := ?_) #[true, true, true, true, false, true, true, true, true, false, false, false, false, false, false, false, false, false, false, false, false, false, false, false, false, false, false, false, false] rfl rfl (by kernel_rfl) (fun _ _ _ h => h) (Or.inl ⟨by rfl, ?_⟩) ?_ ?_
        rotate_left; ·intro w'; go_simp; with_reducible rfl
        rotate_left; ·simp only [Act.put, sA_, sZ_, sS_, i64_w, i32_w]; rfl
        refine pure_ (i := 10) (N := some 87) (v := ?_) (a' := ?_) #[true, true, true, true, false, true, true, true, true, false, true, false, false, false, false, false, false, false, false, false, false, false, false, false, false, false, false, false, false] rfl rfl (by kernel_rfl) (fun _ _ _ h => h) (Or.inl ⟨by rfl, ?_⟩) ?_ ?_
        rotate_left; ·intro w'; go_simp; with_reducible rfl
        rotate_left; ·simp only [Act.put, sA_, sZ_, sS_, i64_w, i32_w]; rfl
        refine pure_ (i := 11) (N := some 88) (v := ?_) (a' := ?_) #[true, true, true, true, false, true, true, true, true, false, true, true, false, false, false, false, false, false, false, false, false, false, false, false, false, false, false, false, false] rfl rfl (by kernel_rfl) (fun _ _ _ h => h) (Or.inl ⟨by rfl, ?_⟩) ?_ ?_
        rotate_left; ·intro w'; go_simp; with_reducible rfl
        rotate_left; ·simp only [Act.put, sA_, sZ_, sS_, i64_w, i32_w]; rfl
        refine pure_ (i := 12) (N := some 89) (v := ?_) (a' := ?_) #[true, true, true, true, false, true, true, true, true, false, true, true, true, false, false, false, false, false, false, false, false, false, false, false, false, false, false, false, false] rfl rfl (by kernel_rfl) (fun _ _ _ h => h) (Or.inl ⟨by rfl, ?_⟩) ?_ ?_
        rotate_left; ·intro w'; go_simp; with_reducible rfl
        rotate_left; ·simp only [Act.put, sA_, sZ_, sS_, i64_w, i32_w]; rfl
        refine pure_ (i := 13) (N := some 90) (v := ?_) (a' := ?_) #[true, true, true, true, false, true, true, true, true, false, true, true, true, true, false, false, false, false, false, false, false, false, false, false, false, false, false, false, false] rfl rfl (by kernel_rfl) (fun _ _ _ h => h) (Or.inl ⟨by rfl, ?_⟩) ?_ ?_
        rotate_left; ·intro w'; go_simp; with_reducible rfl
        rotate_left; ·simp only [Act.put, sA_, sZ_, sS_, i64_w, i32_w]; rfl
        refine pure_ (i := 15) (N := some 92) (v := ?_) (a' := ?_) #[true, true, true, true, false, true, true, true, true, false, true, true, true, true, false, true, false, false, false, false, false, false, false, false, false, false, false, false, false] rfl rfl (by kernel_rfl) (fun _ _ _ h => h) (Or.inl ⟨by rfl, ?_⟩) ?_ ?_
        rotate_left; ·intro w'; go_simp; with_reducible rfl
        rotate_left; ·simp only [Act.put, sA_, sZ_, sS_, i64_w, i32_w]; rfl
        refine pure_ (i := 16) (N := some 93) (v := ?_) (a' := ?_) #[true, true, true, true, false, true, true, true, true, false, true, true, true, true, false, true, true, false, false, false, false, false, false, false, false, false, false, false, false] rfl rfl (by kernel_rfl) (fun _ _ _ h => h) (Or.inl ⟨by rfl, ?_⟩) ?_ ?_
        rotate_left; ·intro w'; go_simp; with_reducible rfl
        rotate_left; ·simp only [Act.put, sA_, sZ_, sS_, i64_w, i32_w]; rfl
        refine pure_ (i := 17) (N := some 94) (v := ?_) (a' := ?_) #[true, true, true, true, false, true, true, true, true, false, true, true, true, true, false, true, true, true, false, false, false, false, false, false, false, false, false, false, false] rfl rfl (by kernel_rfl) (fun _ _ _ h => h) (Or.inl ⟨by rfl, ?_⟩) ?_ ?_
        rotate_left; ·intro w'; go_simp; with_reducible rfl
        rotate_left; ·simp only [Act.put, sA_, sZ_, sS_, i64_w, i32_w]; rfl
        refine take_ (i := 4) (N := some 81) (v := ?_) (a' := ?_) #[true, true, true, true, true, true, true, true, true, false, true, true, true, true, false, true, true, true, false, false, false, false, false, false, false, false, false, false, false] rfl rfl (by kernel_rfl) (fun _ _ _ h => h) (Or.inl ⟨by rfl, ?_⟩) hHeld ?_ ?_
        rotate_left
        ·rintro w' ⟨s0, s1, s2⟩; go_simp; with_reducible rfl
        rotate_left; ·simp only [Act.put, sA_, sZ_, sS_, i64_w, i32_w]; rfl
        refine take_ (i := 9) (N := some 86) (v := ?_) (a' := ?_) #[true, true, true, true, true, true, true, true, true, true, true, true, true, true, false, true, true, true, false, false, false, false, false, false, false, false, false, false, false] rfl rfl (by kernel_rfl) (fun _ _ _ h => h) (Or.inl ⟨by rfl, ?_⟩) hHeld ?_ ?_
        rotate_left
        ·rintro w' ⟨s0, s1, s2⟩; go_simp; with_reducible rfl
        rotate_left; ·simp only [Act.put, sA_, sZ_, sS_, i64_w, i32_w]; rfl
        refine take_ (i := 14) (N := some 91) (v := ?_) (a' := ?_) #[true, true, true, true, true, true, true, true, true, true, true, true, true, true, true, true, true, true, false, false, false, false, false, false, false, false, false, false, false] rfl rfl (by kernel_rfl) (fun _ _ _ h => h) (Or.inl ⟨by rfl, ?_⟩) hHeld ?_ ?_
        rotate_left
        ·rintro w' ⟨s0, s1, s2⟩; go_simp; with_reducible rfl
        rotate_left; ·simp only [Act.put, sA_, sZ_, sS_, i64_w, i32_w]; rfl
        refine take_ (i := 18) (N := some 95) (v := ?_) (a' := ?_) #[true, true, true, true, true, true, true, true, true, true, true, true, true, true, true, true, true, true, true, false, false, false, false, false, false, false, false, false, false] rfl rfl (by kernel_rfl) (fun _ _ _ h => h) (Or.inl ⟨by rfl, ?_⟩) hHeld ?_ ?_
        rotate_left
        ·rintro w' ⟨s0, s1, s2⟩; go_simp; with_reducible rfl
        rotate_left; ·simp only [Act.put, sA_, sZ_, sS_, i64_w, i32_w]; rfl
        refine pure_ (i := 19) (N := some 96) (v := ?_) (a' := ?_) #[true, true, true, true, true, true, true, true, true, true, true, true, true, true, true, true, true, true, true, true, false, false, false, false, false, false, false, false, false] rfl rfl (by kernel_rfl) (fun _ _ _ h => h) (Or.inl ⟨by rfl, ?_⟩) ?_ ?_
        rotate_left; ·intro w'; go_simp; with_reducible rfl
        rotate_left; ·simp only [Act.put, sA_, sZ_, sS_, i64_w, i32_w]; rfl
        refine pure_ (i := 20) (N := some 97) (v := ?_) (a' := ?_) #[true, true, true, true, true, true, true, true, true, true, true, true, true, true, true, true, true, true, true, true, true, false, false, false, false, false, false, false, false] rfl rfl (by kernel_rfl) (fun _ _ _ h => h) (Or.inl ⟨by rfl, ?_⟩) ?_ ?_
        rotate_left; ·intro w'; go_simp; with_reducible rfl
        rotate_left; ·simp only [Act.put, sA_, sZ_, sS_, i64_w, i32_w]; rfl
        refine pure_ (i := 21) (N := some 98) (v := ?_) (a' := ?_) #[true, true, true, true, true, true, true, true, true, true, true, true, true, true, true, true, true, true, true, true, true, true, false, false, false, false, false, false, false] rfl rfl (by kernel_rfl) (fun _ _ _ h => h) (Or.inl ⟨by rfl, ?_⟩) ?_ ?_
        rotate_left; ·intro w'; go_simp; with_reducible rfl
        rotate_left; ·simp only [Act.put, sA_, sZ_, sS_, i64_w, i32_w]; rfl
        refine pure_ (i := 22) (N := some 99) (v := ?_) (a' := ?_) #[true, true, true, true, true, true, true, true, true, true, true, true, true, true, true, true, true, true, true, true, true, true, true, false, false, false, false, false, false] rfl rfl (by kernel_rfl) (fun _ _ _ h => h) (Or.inl ⟨by rfl, ?_⟩) ?_ ?_
        rotate_left; ·intro w'; go_simp; with_reducible rfl
        rotate_left; ·simp only [Act.put, sA_, sZ_, sS_, i64_w, i32_w]; rfl
        refine pure_ (i := 23) (N := some 100) (v := ?_) (a' := ?_) #[true, true, true, true, true, true, true, true, true, true, true, true, true, true, true, true, true, true, true, true, true, true, true, true, false, false, false, false, false] rfl rfl (by kernel_rfl) (fun _ _ _ h => h) (Or.inl ⟨by rfl, ?_⟩) ?_ ?_
        rotate_left; ·intro w'; go_simp; with_reducible rfl
        rotate_left; ·simp only [Act.put, sA_, sZ_, sS_, i64_w, i32_w]; rfl
        refine last_ (i := 24) (N := none) #[true, true, true, true, true, true, true, true, true, true, true, true, true, true, true, true, true, true, true, true, true, true, true, true, true, false, false, false, false] rfl rfl (by kernel_rfl) (by decide) (fun K hK => ?_)
        have hz3_ := HE.out.z3
        have hf3_ := blk_frozen HE.out.bk 3
        have HEn := aK (HE.out.setP HTK.out)
        have HKn := aK (HKL.out.setCell (p := ⟨g, 3, none⟩) (.inl (.inl rfl)) (.slice (some adp) m cp))
        refine skip_ (w1 := wd.setCell ⟨g, 3, none⟩ (.slice (some adp) m cp)) (by rfl) rfl ?_ ?_
        ·go_simp
         try rfl
        generalize wd.setCell ⟨g, 3, none⟩ (.slice (some adp) m cp) = we at HEn HKn ⊢
        clear hz3_ hf3_ HE HKL HTK hz1 hz2 hz3 hHeld; have HE := HEn; have HKL := HKn; clear HEn HKn
        refine hK.out _ _ ?_
        clear hK K
        refine pure_ (i := 25) (N := some 101) (v := ?_) (a' := ?_) #[true, true, true, true, true, true, true, true, true, true, true, true, true, true, true, true, true, true, true, true, true, true, true, true, true, true, false, false, false] rfl rfl (by kernel_rfl) (fun _ _ _ h => h) (Or.inl ⟨by rfl, ?_⟩) ?_ ?_
        rotate_left; ·intro w'; go_simp; with_reducible rfl
        rotate_left; ·simp only [Act.put, sA_, sZ_, sS_, i64_w, i32_w]; rfl
        refine last_ (i := 26) (N := none) #[true, true, true, true, true, true, true, true, true, true, true, true, true, true, true, true, true, true, true, true, true, true, true, true, true, true, true, false, false] rfl rfl (by kernel_rfl) (by decide) (fun K hK => ?_)
        obtain ⟨ha_, hfa_⟩ := Kd.R_celln 0 HE.out.a i HQ.out.1 (of_eq_true q1')
        have HEn := aK (HE.out.setA i 0)
        have HKn := aK (HKL.out.setCell (p := ⟨ga, i.toNat, none⟩) (.inl (.inr (.inl rfl))) (.int .i64 0))
        refine skip_ (w1 := we.setCell ⟨ga, i.toNat, none⟩ (.int .i64 0)) (by rfl) rfl ?_ ?_
        ·go_simp
         try rfl
        generalize we.setCell ⟨ga, i.toNat, none⟩ (.int .i64 0) = wf at HEn HKn ⊢
        clear ha_ hfa_ HE HKL; have HE := HEn; have HKL := HKn; clear HEn HKn
        refine hK.out _ _ ?_
        clear hK K
        refine pure_ (i := 27) (N := some 102) (v := ?_) (a' := ?_) #[true, true, true, true, true, true, true, true, true, true, true, true, true, true, true, true, true, true, true, true, true, true, true, true, true, true, true, true, false] rfl rfl (by kernel_rfl) (fun _ _ _ h => h) (Or.inl ⟨by rfl, ?_⟩) ?_ ?_
        rotate_left; ·intro w'; go_simp; with_reducible rfl
        rotate_left; ·simp only [Act.put, sA_, sZ_, sS_, i64_w, i32_w]; rfl
        refine last_ (i := 28) (N := none) #[true, true, true, true, true, true, true, true, true, true, true, true, true, true, true, true, true, true, true, true, true, true, true, true, true, true, true, true, true] rfl rfl (by kernel_rfl) (by decide) (fun K hK => ?_)
        obtain ⟨ha_, hfa_⟩ := Kd.R_celln false HE.out.d i HQ.out.1 (of_eq_true q2')
        have HEn := aK (HE.out.setD i true)
        have HKn := aK (HKL.out.setCell (p := ⟨gd, i.toNat, none⟩) (.inl (.inr (.inr (.inl rfl)))) (.bool true))
        refine skip_ (w1 := wf.setCell ⟨gd, i.toNat, none⟩ (.bool true)) (by rfl) rfl ?_ ?_
        ·go_simp
         try rfl
        generalize wf.setCell ⟨gd, i.toNat, none⟩ (.bool true) = wg at HEn HKn ⊢
        clear ha_ hfa_ HE HKL; have HE := HEn; have HKL := HKn; clear HEn HKn
        refine hK.out _ _ ?_
        clear hK K
        refine done_ (by kernel_rfl) ?_
        go_wp2; go_ret
        refine ⟨_, .slice (some adp) m cp, rfl, fun _ => rfl, Kd.R_nil _ _ _ _ _, ?_, HKW.out.then_ HKL.out (fun _ h => .inl h)⟩
        have e : Pq.take (Pq.length - 1) = Pq.take m := by rw [HM.out]; rfl
        rw [e]
        exact HE.out
       ·rw [if_neg pl] at H; cases H
 ·rw [if_neg q] at h; cases h
end Go.Proofs.Ytbbkclcfmcjlgaa.P
