/- The statements CycleRead and CycleRestored, over plain numbers and lists. -/
import Derived.Test.YtmaochcdjmnffaaT3A1
import Derived.Test.YtmaochcdjmnffaaT3B1
import Derived.Test.YtmaochcdjmnffaaT3Px35
import Derived.Test.YtmaochcdjmnffaaT3Px9
namespace Go.Proofs.Ytmaochcdjmnffaa.B
open Go.RowKit Go.Proofs.Ytmaochcdjmnffaa.P Go.Proofs.YtmaochcdjmnffaaW.PrintWords Go.Proofs.YtmaochcdjmnffaaW.PrintLast Go.Proofs.YtmaochcdjmnffaaW.PrintMore
set_option linter.unusedVariables false
/-- The values of the words with a letter. -/
def codesW (ws : List S80) (c : Int) : List Int := (ws.filter (fun x => x.f0 == c)).map (fun x => x.f1)
theorem codes_find (ws : List S80) (c : Int) : findW ws c = (codesW ws c).head? := by
  induction ws with
  | nil => rfl
  | cons x xs ih =>
    unfold findW codesW
    rw [List.filter_cons]
    by_cases h : x.f0 = c
    · rw [if_pos h, if_pos (by simp [h])]; simp
    · rw [if_neg h, if_neg (by simp [h]), ih]; rfl
theorem getD_drop80 (ds : List S80) (j : Nat) (h : j < ds.length) : ds.drop j = rd_T80 ds (j : Int) :: ds.drop (j + 1) := by
  rw [List.drop_eq_getElem_cons h]
  simp [rd_T80, List.getElem?_eq_getElem h]
theorem codes_l0 (ws : List S80) (hl : ws.length ≤ 16) (c : Int) (m : Nat) : ∀ (k j : Nat) (acc : List Int) (s : Bool) (cm : ByteArray), m < k → j + m = ws.length → acc.length ≤ j →
    swarfref41_Codes.l0 k c acc (j : Int) s ws cm = some (acc ++ codesW (ws.drop j) c) := by
  induction m with
  | zero =>
    intro k j acc s cm hk hj ha
    obtain ⟨k, rfl⟩ : ∃ j, k = j + 1 := ⟨k - 1, by omega⟩
    rw [swarfref41_Codes.l0, if_neg (by omega), List.drop_eq_nil_of_le (by omega)]
    simp [codesW]
  | succ m ih =>
    intro k j acc s cm hk hj ha
    obtain ⟨k, rfl⟩ : ∃ j, k = j + 1 := ⟨k - 1, by omega⟩
    have hlt : j < ws.length := by omega
    have e : codesW (ws.drop j) c = (if (rd_T80 ws (j : Int)).f0 = c then [(rd_T80 ws (j : Int)).f1] else []) ++ codesW (ws.drop (j + 1)) c := by
      rw [getD_drop80 ws j hlt]
      unfold codesW
      rw [List.filter_cons]
      by_cases h : (rd_T80 ws (j : Int)).f0 = c
      · rw [if_pos h, if_pos (by simp [h])]; rfl
      · rw [if_neg h, if_neg (by simp [h])]; rfl
    rw [swarfref41_Codes.l0, if_pos (by omega), if_pos (by omega), wrap_small (j + 1) (by omega) (by omega), show (j : Int) + 1 = ((j + 1 : Nat) : Int) by omega, e]
    by_cases h : (rd_T80 ws (j : Int)).f0 = c
    · rw [if_pos h, if_pos h, if_pos (by omega), ih k (j + 1) _ s cm (by omega) (by omega) (by simp; omega)]
      simp
    · rw [if_neg h, if_neg h, ih k (j + 1) _ s cm (by omega) (by omega) (by omega)]
      simp
theorem value_eq (k : Nat) (hk : 100 ≤ k) (s : Bool) (ws : List S80) (hl : ws.length ≤ 16) (cm : ByteArray) (c o : Int) : swarfref44_value.f k s ws cm c o = some (valW ws c o) := by
  unfold swarfref44_value.f swarfref41_Find.f swarfref41_Codes.f
  have := codes_l0 ws hl c ws.length k 0 [] s cm (by omega) (by omega) (by simp)
  rw [show ((0 : Nat) : Int) = 0 from rfl] at this
  rw [this]
  simp only [Option.bind_some, List.nil_append, List.drop_zero, valW, codes_find]
  cases hc : codesW ws c with
  | nil => rfl
  | cons x xs =>
    rw [if_neg (by simp only [List.length_cons]; omega), if_pos (by simp only [List.length_cons]; omega)]
    rfl
theorem CycleRead (s : Bool) (ws : List S80) (cm : ByteArray) (a0 a1 a2 a3 a4 a5 : Int) (a6 : Bool) (b0 b1 b2 b3 b4 b5 : Int) (b6 : Bool) :
    ∃ k, swarflaw44_CycleRead.f k s ws cm a0 a1 a2 a3 a4 a5 a6 b0 b1 b2 b3 b4 b5 b6 = some true := by
  refine ⟨20000100, ?_⟩
  unfold swarflaw44_CycleRead.f
  rw [awake_true _ (by omega)]
  simp only [Option.bind_some, if_true]
  by_cases hl : (ws.length : Int) > 16
  · rw [if_pos hl]
  · rw [if_neg hl]
    unfold cycle_Read.f swarfref44_Read.f
    have V := fun c o => value_eq 20000100 (by omega) s ws (by omega) cm c o
    rw [V, V, V, V]
    simp only [Option.bind_some]
    rw [show (20000100 : Nat) = 20000098 + 2 from rfl, valid_eq, ref_valid_eq _ (by omega)]
    simp only [Option.bind_some]
    split <;> simp
end Go.Proofs.Ytmaochcdjmnffaa.B
