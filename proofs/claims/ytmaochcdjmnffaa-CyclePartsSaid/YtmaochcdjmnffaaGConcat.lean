/- The contracts of slices.Grow (function 33; of nil) and slices.Concat (function 24) at []api.Move, by hand. -/
import Derived.Test.YtmaochcdjmnffaaPx0
namespace Go.Proofs.Ytmaochcdjmnffaa.P
open Go.RowKit Go.Proofs.YtmaochcdjmnffaaW.PrintWords Go.Proofs.YtmaochcdjmnffaaW.PrintLast Go.Proofs.YtmaochcdjmnffaaW.PrintMore
set_option linter.unusedVariables false
set_option linter.unusedSimpArgs false

set_option maxHeartbeats 1000000 in
set_option maxRecDepth 100000 in
theorem grow_nil (n : Int) (w : World) (h0 : 0 ≤ n) (h1 : n ≤ 1000000) :
    Calls Try.prog 33 #[.slice none 0 0, .int .i64 n] w fun e w' => ∃ v0_ : Value, e = .returned v0_ ∧ Kd.R k45 45 w' w.heap.size (fun _ => True) v0_ [] ∧ Below w.heap.size w w' := by
  have hn0 : decide (n < 0) = false := decide_eq_false (by omega)
  by_cases hp : 0 < n
  · have hpb : decide (0 < n) = true := decide_eq_true hp
    go_enter Try.func33, Try.ntmps33
    go_wp2_with (first | ((with_reducible refine gate_builtin (b := .append) (xs := #[.tmp 20, .tmp 21]) rfl ?_); at_builtin; refine Kd.R_append_zeros k45 (w0 := w) w.heap.size rfl (.tmp 20) (.tmp 21) 38 3 45 (.agg #[(.int .i64 0), (.int .i64 0), (.int .i64 0), (.int .i64 0), (.int .i64 0), (.int .i64 0), (.int .i64 0)]) 56 rfl Try.underlying38 Try.underlying3 info45 rfl (by decide) (by omega) (.slice none 0 0) [] z45 n (fun _ => True) rfl rfl ?aZ (fun _ _ => trivial) (Kd.R_nil _ _ _ _ _) h0 (Below.refl _ _) (Nat.le_refl _) ?aL ?_; (case aZ => exact k45_mkM _ _ _ z45); (case aL => simp; omega); intro v1 w1 ho hb hg hat; have HSl := Kd.R_slice ho; obtain ⟨A1, c1, rfl⟩ := HSl; have HO := Aside0.mk (Kd.R_take ho (Nat.zero_le _)); have HB := Aside0.mk hb; clear ho hb hg hat))
    go_ret
    exact ⟨_, rfl, by have := HO.out; rwa [List.take_zero] at this, HB.out⟩
  · have hpb : decide (0 < n) = false := decide_eq_false hp
    go_enter Try.func33, Try.ntmps33
    go_wp2
    go_ret
    exact ⟨_, rfl, Kd.R_nil _ _ _ _ _, Below.refl _ _⟩
def totalL (l : List (List S45)) : Nat := (l.map List.length).sum
def api_Move_24.f (l0 : List (List S45)) : Option (List S45) := if totalL l0 ≤ 1000000 then some l0.flatten else none

theorem totalL_append (a b : List (List S45)) : totalL (a ++ b) = totalL a + totalL b := by unfold totalL; simp
theorem take_one (l : List (List S45)) (i : Nat) (h : i < l.length) : l.take (i + 1) = l.take i ++ [l[i]] := List.take_succ_eq_append_getElem h
theorem totalL_take (l : List (List S45)) (i : Nat) (h : i < l.length) : totalL (l.take (i + 1)) = totalL (l.take i) + (l[i]).length := by
  rw [take_one l i h, totalL_append]; simp [totalL]
theorem totalL_le (l : List (List S45)) (i : Nat) : totalL (l.take i) ≤ totalL l := by
  have h : totalL (l.take i ++ l.drop i) = totalL (l.take i) + totalL (l.drop i) := totalL_append _ _
  rw [List.take_append_drop] at h
  omega
theorem flatten_take (l : List (List S45)) (i : Nat) (h : i < l.length) : (l.take (i + 1)).flatten = (l.take i).flatten ++ l[i] := by
  rw [take_one l i h, List.flatten_append]; simp
theorem flatten_len (l : List (List S45)) : l.flatten.length = totalL l := by unfold totalL; rw [List.length_flatten]

set_option maxHeartbeats 2000000 in
set_option maxRecDepth 100000 in
theorem api_Move_24.calls (A0 : Option Addr) (c0 : Nat) (l0 : List (List S45)) (r : List S45) (w : World) (hr0 : Kd.C (Kd.slice 45 k45) w A0 l0.length l0) (hc0 : l0.length ≤ c0) (h : api_Move_24.f l0 = some r) :
    Calls Try.prog 24 #[.slice A0 l0.length c0] w fun e w' => ∃ v0_ : Value, e = .returned (v0_) ∧ Kd.R k45 45 w' w.heap.size (fun _ => True) v0_ r ∧ Below w.heap.size w w' := by
  unfold api_Move_24.f at h
  split at h
  · rename_i ht
    obtain rfl := Option.some.inj h
    clear h
    have hmax := Kd.C_max hr0
    have HR := Aside0.mk hr0
    clear hr0
    go_enter Try.func24, Try.ntmps24
    go_wp2_with fail
    go_loopw [3, 11] (fun v3 v11 W => ∃ (i : Int), v11 = .int .i64 i ∧ v3 = .int .i64 (totalL (l0.take i.toNat) : Int) ∧ 0 ≤ i ∧ i ≤ l0.length ∧ Aside0 (Below w.heap.size w W)) (fun _ v11 _ => l0.length - (intOf v11).toNat)
    case atStart => exact ⟨0, rfl, by simp [totalL], by omega, by omega, ⟨Below.refl _ _⟩⟩
    case round =>
      obtain ⟨i, rfl, rfl, hi0, hi1, HB⟩ := hrel
      by_cases hlt : i < (l0.length : Int)
      · have hltb : decide (i < (l0.length : Int)) = true := decide_eq_true hlt
        obtain ⟨ad, A1, c1, e1, hx, hl, hC⟩ := at_L7 HR.out i hi0 hlt
        cases e1
        replace hx := (HB.out.cell (World.block_lt_of_cell? w _ hx)).trans hx
        have hel : rd_L7 l0 i = l0[i.toNat]'(by omega) := by unfold rd_L7; rw [List.getD_eq_getElem?_getD, List.getElem?_eq_getElem (by omega)]; rfl
        have HT := Aside0.mk (show totalL (l0.take (i + 1).toNat) = totalL (l0.take i.toNat) + (rd_L7 l0 i).length by rw [show (i + 1).toNat = i.toNat + 1 by omega, totalL_take _ _ (by omega), hel])
        have h1 := totalL_le l0 (i + 1).toNat
        rw [HT.out] at h1
        generalize hq : totalL (l0.take i.toNat) = T at h1 HT
        generalize (rd_L7 l0 i) = row at hx hl hC HT h1
        clear hel hq
        have hneg : decide (((T : Int) + (row.length : Int)) < 0) = false := decide_eq_false (by omega)
        have hneg' : ¬ ((T : Int) + (row.length : Int) < 0) := by omega
        go_wp2
        go_roundw
        case rel => exact ⟨i + 1, by go_num, by rw [HT.out]; go_num, by omega, by omega, HB⟩
        case measure => simp [intOf]; omega
      · obtain rfl : i = (l0.length : Int) := by omega
        have hltb : decide ((l0.length : Int) < (l0.length : Int)) = false := decide_eq_false (by omega)
        rw [Int.toNat_natCast, List.take_length]
        go_wp2_with (go_at_call 33; (with_reducible refine (grow_nil _ _ (by omega) (by omega)).mono ?_); rintro e w1 ⟨v1, rfl, ho, hb⟩; have HO := Aside0.mk (Kd.R_lower ho HB.out.size); have HB1 := Aside0.mk (below_step HB.out hb); clear ho hb)
        go_loopw [6, 27] (fun v6 v27 W => ∃ (i : Int) (v : Value), v27 = .int .i64 i ∧ v6 = v ∧ 0 ≤ i ∧ i ≤ l0.length ∧ Aside0 (Kd.R k45 45 W w.heap.size (fun _ => True) v (l0.take i.toNat).flatten) ∧ Aside0 (Below w.heap.size w W)) (fun _ v27 _ => l0.length - (intOf v27).toNat)
        case atStart => exact ⟨0, v1, rfl, rfl, by omega, by omega, ⟨by simpa using HO.out⟩, HB1⟩
        case round =>
          clear HO HB1 HB hltb
          obtain ⟨i, v, rfl, rfl, hi0, hi1, HO, HB⟩ := hrel
          by_cases hlt : i < (l0.length : Int)
          · have hltb : decide (i < (l0.length : Int)) = true := decide_eq_true hlt
            obtain ⟨ad, A1, c1, e1, hx, hl, hC⟩ := at_L7 HR.out i hi0 hlt
            cases e1
            replace hx := (HB.out.cell (World.block_lt_of_cell? w _ hx)).trans hx
            have hel : rd_L7 l0 i = l0[i.toNat]'(by omega) := by unfold rd_L7; rw [List.getD_eq_getElem?_getD, List.getElem?_eq_getElem (by omega)]; rfl
            have HT := Aside0.mk (show (l0.take (i + 1).toNat).flatten = (l0.take i.toNat).flatten ++ rd_L7 l0 i by rw [show (i + 1).toNat = i.toNat + 1 by omega, flatten_take _ _ (by omega), hel])
            have h1 := totalL_le l0 (i + 1).toNat
            rw [← flatten_len, HT.out, List.length_append] at h1
            have HL := Aside0.mk (show (l0.take i.toNat).flatten.length + (rd_L7 l0 i).length ≤ 1000000 by omega)
            have HC1 := Aside0.mk (Kd.C_below hC HB.out)
            obtain ⟨Av, cv, rfl⟩ := Kd.R_slice HO.out
            clear hel h1 hC
            go_wp2_with (first | ((with_reducible refine gate_builtin (b := .append) (xs := #[.tmp 31, .tmp 32]) rfl ?_); at_builtin; refine Kd.R_append_rows k45 (Rr := k45.K wr) (w0 := w) w.heap.size rfl (.tmp 31) (.tmp 32) 38 45 (.agg #[(.int .i64 0), (.int .i64 0), (.int .i64 0), (.int .i64 0), (.int .i64 0), (.int .i64 0), (.int .i64 0)]) 56 rfl Try.underlying38 info45 rfl (by decide) (by omega) _ (l0.take i.toNat).flatten (rd_L7 l0 i) A1 (rd_L7 l0 i).length c1 (fun _ => True) (fun _ => False) rfl rfl HO.out HC1.out ?aK (fun _ hk => hk.elim) (fun _ _ => trivial) HB.out HB.out.size ?aL ?_; (case aK => intro x cs hk; obtain rfl := k45_open hk; exact k45_mkM _ _ _ _); (case aL => have := HL.out; omega); intro v2 w2 ho hb hg hat; have HO2 := Aside0.mk ho; have HB2 := Aside0.mk hb; clear ho hb hg hat hx))
            go_roundw
            case rel => exact ⟨i + 1, _, by go_num, rfl, by omega, by omega, ⟨by rw [HT.out]; exact HO2.out⟩, HB2⟩
            case measure => simp [intOf]; omega
          · obtain rfl : i = (l0.length : Int) := by omega
            have hltb : decide ((l0.length : Int) < (l0.length : Int)) = false := decide_eq_false (by omega)
            have ho := HO.out
            rw [Int.toNat_natCast, List.take_length] at ho
            have HO2 := Aside0.mk ho
            clear ho HO
            go_wp2
            go_ret
            exact ⟨_, rfl, HO2.out, HB.out⟩
  · cases h
end Go.Proofs.Ytmaochcdjmnffaa.P
