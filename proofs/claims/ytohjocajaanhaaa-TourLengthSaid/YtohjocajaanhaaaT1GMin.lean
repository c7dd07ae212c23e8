/- The contract of slices.Min at []int64 (function 46), by hand: it may panic with a string, which the printing program does not take. -/
import Derived.Test.YtohjocajaanhaaaT1Px0
import Derived.WalkSpells
namespace Go.Proofs.Ytohjocajaanhaaa.P
open Go.RowKit Go.Proofs.YtohjocajaanhaaaW.PrintWords Go.Proofs.YtohjocajaanhaaaW.PrintLast Go.Proofs.YtohjocajaanhaaaW.PrintMore
attribute [local go_sem] max2_int min2_int max_two min_two max_three min_three max_four min_four   -- for this text's walks alone
set_option linter.unusedVariables false
set_option linter.unusedSimpArgs false

def minL (l0 : List Int) (k : Nat) : Int := ((l0.drop 1).take k).foldl mn (rd l0 0)
theorem minL_zero (l0 : List Int) : minL l0 0 = rd l0 0 := by simp [minL]
theorem minL_succ (l0 : List Int) (k : Nat) (h : k + 1 < l0.length) : minL l0 (k + 1) = mn (minL l0 k) (rd l0 ((k : Int) + 1)) := by
  unfold minL
  have h1 : k < (l0.drop 1).length := by rw [List.length_drop]; omega
  rw [List.take_succ_eq_append_getElem h1, List.foldl_append]
  have : rd l0 ((k : Int) + 1) = (l0.drop 1)[k] := by
    unfold rd
    rw [List.getElem_drop]
    have e : ((k : Int) + 1).toNat = 1 + k := by omega
    rw [e]
    simp [List.getD, show 1 + k < l0.length by omega]
  rw [this]
  rfl
def slices_Min_int64_int64.f (l0 : List Int) : Option Int := if 1 ≤ l0.length then some (minL l0 (l0.length - 1)) else none
set_option maxHeartbeats 1000000 in
set_option maxRecDepth 100000 in
theorem slices_Min_int64_int64.calls (A0 : Option Addr) (c0 : Nat) (l0 : List Int) (r : Int) (w : World) (hr0 : Kd.C (Kd.int .i64) w A0 l0.length l0) (hc0 : l0.length ≤ c0) (h : slices_Min_int64_int64.f l0 = some r) :
    Calls Try.prog 46 #[.slice A0 l0.length c0] w fun e w' => e = .returned (.int .i64 r) ∧ Drawn0 w w' := by
  unfold slices_Min_int64_int64.f at h
  split at h
  · rename_i hl
    have HH := Aside0.mk (Option.some.inj h)
    clear h
    have HR := Aside0.mk hr0
    have hmx : l0.length ≤ 9223372036854775807 := hr0.2.1
    clear hr0 hc0
    have hl0 : decide ((l0.length : Int) < 1) = false := by simp; omega
    obtain ⟨ad, eA, hx0⟩ := Kd.at_int HR.out 0 (by omega) (by omega)
    subst eA
    have hx1 : w.cell? (ad.add 0) = some (.int .i64 (rd l0 0)) := hx0
    have hx2 : w.cell? ad = some (.int .i64 (rd l0 0)) := by cases ad; simpa [Addr.add] using hx0
    have hlt0 : (0 : Int) < (l0.length : Int) := by omega
    go_enter Try.func46, Try.ntmps46
    go_wp2
    go_loop [3, 4] (fun m i => ∃ k : Nat, k + 1 ≤ l0.length ∧ i = .int .i64 ((k : Int) + 1) ∧ m = .int .i64 (minL l0 k)) (fun _ i => l0.length - (intOf i).toNat)
    case atStart => exact ⟨0, by omega, rfl, by rw [minL_zero]⟩
    case round =>
      obtain ⟨k, hk, rfl, rfl⟩ := hrel
      clear hx0 hx1 hx2
      by_cases hlt : k + 1 < l0.length
      · obtain ⟨ad', eA', hx⟩ := Kd.at_int HR.out ((k : Int) + 1) (by omega) (by omega)
        obtain rfl : ad = ad' := by injection eA'
        have hx' : w.cell? ⟨ad.block, ad.off + (k + 1), none⟩ = some (.int .i64 (rd l0 ((k : Int) + 1))) := hx
        clear hx
        have hb : decide ((k : Int) + 1 < (l0.length : Int)) = true := by simp; omega
        have hS := Aside0.mk (minL_succ l0 k hlt)
        go_wp2
        all_goals
          go_round
          case rel => exact ⟨k + 1, by omega, by go_num, by rw [hS.out]; first | rfl | (unfold mn; simp [*]; done)⟩
          case measure => simp [intOf]; omega
      · have hb : decide ((k : Int) + 1 < (l0.length : Int)) = false := by simp; omega
        go_wp2
        go_ret
        have e := HH.out
        rw [show l0.length - 1 = k by omega] at e
        exact ⟨by rw [← e]; rfl, Drawn0.refl _⟩
  · cases h
end Go.Proofs.Ytohjocajaanhaaa.P
