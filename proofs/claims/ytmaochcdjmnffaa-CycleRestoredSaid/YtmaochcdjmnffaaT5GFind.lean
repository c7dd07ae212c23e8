/- Contracts of swarf/block.Find (function 31) and of the closure 'value' of swarf/cycle.Read (function 30), by hand. -/
import Derived.Test.YtmaochcdjmnffaaT5Px0
namespace Go.Proofs.Ytmaochcdjmnffaa.P
open Go.RowKit Go.Proofs.YtmaochcdjmnffaaW.PrintWords Go.Proofs.YtmaochcdjmnffaaW.PrintLast Go.Proofs.YtmaochcdjmnffaaW.PrintMore
set_option linter.unusedVariables false
set_option linter.unusedSimpArgs false

def findW : List S80 → Int → Option Int
  | [], _ => none
  | x :: xs, c => if x.f0 = c then some x.f1 else findW xs c
def valW (ws : List S80) (c other : Int) : Int := (findW ws c).getD other

set_option maxHeartbeats 1000000 in
set_option maxRecDepth 100000 in
theorem find_any (skip : Bool) (A : Option Addr) (c : Nat) (ws : List S80) (cm : ByteArray) (letter : Int) (r : Option Int) (w : World) (hr : Kd.C k80 w A ws.length ws) (hf : findW ws letter = r) :
    Calls Try.prog 31 #[.agg #[.bool skip, .slice A ws.length c, .string cm], .int .u8 letter] w fun e w' => e = .returned (.tuple #[.int .i64 (r.getD 0), .bool r.isSome]) ∧ Below w.heap.size w w' := by
  have hu54 := Try.underlying54
  have hu80 := Try.underlying80
  have hmax := Kd.C_max hr
  have HR := Aside0.mk hr
  have HF := Aside0.mk hf
  clear hr hf
  go_enter Try.func31, Try.ntmps31
  go_wp2_with (first | ((with_reducible refine gate_dst (N := 2) rfl ?_); refine box_event ?hg (N := 2) ?hd (cs := #[.bool skip, .slice A ws.length c, .string cm]) (t := 54) ?hr ?_; (case hd => rfl); (case hg => rfl); (case hr => first | (go_simp; done) | (go_simp; rfl)); intro gB hg w1 hbox hb; have E1 := Aside0.mk (show w1.heap[gB]? = some (.cells #[.bool skip, .slice A ws.length c, .string cm] 54 (0, 0)) ∧ Below w.heap.size w w1 from ⟨hbox, hb⟩); have hx1 : w1.cell? ⟨gB, 1, none⟩ = some (.slice A ws.length c) := (blk_cell hbox 1).trans rfl; clear hg hbox hb))
  clear hx1
  go_loopw [11] (fun v11 W => ∃ i : Int, v11 = .int .i64 i ∧ 0 ≤ i ∧ i ≤ ws.length ∧ Aside0 (findW (ws.drop i.toNat) letter = r) ∧ Aside0 (Below w.heap.size w W)) (fun v11 _ => ws.length - (intOf v11).toNat)
  case atStart => exact ⟨0, rfl, by omega, by omega, ⟨by simpa using HF.out⟩, ⟨E1.out.2⟩⟩
  case round =>
    clear E1 HF
    obtain ⟨i, rfl, hi0, hi1, HF, HB⟩ := hrel
    by_cases hlt : i < (ws.length : Int)
    · have hltb : decide (i < (ws.length : Int)) = true := decide_eq_true hlt
      have hel : ws.drop i.toNat = rd_T80 ws i :: ws.drop (i + 1).toNat := by unfold rd_T80; rw [List.getD_eq_getElem?_getD, List.getElem?_eq_getElem (by omega), show (i + 1).toNat = i.toNat + 1 by omega]; exact List.drop_eq_getElem_cons (by omega)
      have hf := HF.out
      rw [hel, findW] at hf
      have HF2 := Aside0.mk hf
      clear hf hel HF
      obtain ⟨ad, e1, hx0, hx1⟩ := at_T80 HR.out i hi0 hlt
      cases e1
      generalize hg0 : rd_T80 ws i = x at hx0 hx1 HF2
      clear hg0
      replace hx0 := (HB.out.cell (World.block_lt_of_cell? w _ hx0)).trans hx0
      replace hx1 := (HB.out.cell (World.block_lt_of_cell? w _ hx1)).trans hx1
      by_cases hq : x.f0 = letter
      · have hqb : (x.f0 == letter) = true := beq_iff_eq.mpr hq
        have hf := HF2.out
        rw [if_pos hq] at hf
        have HF3 := Aside0.mk hf
        clear hf HF2 hq
        go_wp2_with (first | ((with_reducible refine gate_dst (N := 7) rfl ?_); refine box_event ?hg (N := 7) ?hd (cs := #[.int .u8 0, .int .i64 0]) (t := 80) ?hr ?_; (case hd => rfl); (case hg => rfl); (case hr => first | (go_simp; done) | (go_simp; rfl)); intro gp hg w2 hbox hb; have E2 := Aside0.mk (show w2.heap[gp]? = some (.cells #[.int .u8 0, .int .i64 0] 80 (0, 0)) ∧ Below w.heap.size w w2 ∧ w.heap.size ≤ gp from ⟨hbox, below_step HB.out hb, by have := HB.out.size; omega⟩); have hp0 : w2.cell? ⟨gp, 0, none⟩ = some (.int .u8 0) := (blk_cell hbox 0).trans rfl; have hp1 : w2.cell? ⟨gp, 1, none⟩ = some (.int .i64 0) := (blk_cell hbox 1).trans rfl; have hpf0 := blk_frozen hbox 0; have hpf1 := blk_frozen hbox 1; clear hg hbox hb) | ((with_reducible refine gate_store (t := 80) (p := 7) rfl ?_); refine store_event (t := 80) (p := 7) (w1 := (w2.setCell ⟨gp, 0, none⟩ (.int .u8 x.f0)).setCell ⟨gp, 1, none⟩ (.int .i64 x.f1)) rfl rfl rfl ?hs ?_; (case hs => first | (go_simp; done) | (go_simp; rfl)); intro w3 hw3; have HB3 := Aside0.mk (show Below w.heap.size w w3 by rw [hw3]; exact below_set (below_set E2.out.2.1 E2.out.2.2) E2.out.2.2); have hb3 : w3.heap[gp]? = some (.cells #[.int .u8 x.f0, .int .i64 x.f1] 80 (0, 0)) := (by rw [hw3]; exact blk_put (blk_put E2.out.1 0 _ rfl) 1 _ rfl); clear hw3 hp0 hp1 hpf0 hpf1 hx0 hx1; have hp0 : w3.cell? ⟨gp, 0, none⟩ = some (.int .u8 x.f0) := (blk_cell hb3 0).trans rfl; have hp1 : w3.cell? ⟨gp, 1, none⟩ = some (.int .i64 x.f1) := (blk_cell hb3 1).trans rfl; clear hb3))
        go_ret2
        exact ⟨by rw [← HF3.out]; rfl, HB3.out⟩
      · have hqb : (x.f0 == letter) = false := beq_eq_false_iff_ne.mpr hq
        have hf := HF2.out
        rw [if_neg hq] at hf
        have HF3 := Aside0.mk hf
        clear hf HF2 hq
        go_wp2_with (first | ((with_reducible refine gate_dst (N := 7) rfl ?_); refine box_event ?hg (N := 7) ?hd (cs := #[.int .u8 0, .int .i64 0]) (t := 80) ?hr ?_; (case hd => rfl); (case hg => rfl); (case hr => first | (go_simp; done) | (go_simp; rfl)); intro gp hg w2 hbox hb; have E2 := Aside0.mk (show w2.heap[gp]? = some (.cells #[.int .u8 0, .int .i64 0] 80 (0, 0)) ∧ Below w.heap.size w w2 ∧ w.heap.size ≤ gp from ⟨hbox, below_step HB.out hb, by have := HB.out.size; omega⟩); have hp0 : w2.cell? ⟨gp, 0, none⟩ = some (.int .u8 0) := (blk_cell hbox 0).trans rfl; have hp1 : w2.cell? ⟨gp, 1, none⟩ = some (.int .i64 0) := (blk_cell hbox 1).trans rfl; have hpf0 := blk_frozen hbox 0; have hpf1 := blk_frozen hbox 1; clear hg hbox hb) | ((with_reducible refine gate_store (t := 80) (p := 7) rfl ?_); refine store_event (t := 80) (p := 7) (w1 := (w2.setCell ⟨gp, 0, none⟩ (.int .u8 x.f0)).setCell ⟨gp, 1, none⟩ (.int .i64 x.f1)) rfl rfl rfl ?hs ?_; (case hs => first | (go_simp; done) | (go_simp; rfl)); intro w3 hw3; have HB3 := Aside0.mk (show Below w.heap.size w w3 by rw [hw3]; exact below_set (below_set E2.out.2.1 E2.out.2.2) E2.out.2.2); have hb3 : w3.heap[gp]? = some (.cells #[.int .u8 x.f0, .int .i64 x.f1] 80 (0, 0)) := (by rw [hw3]; exact blk_put (blk_put E2.out.1 0 _ rfl) 1 _ rfl); clear hw3 hp0 hp1 hpf0 hpf1 hx0 hx1; have hp0 : w3.cell? ⟨gp, 0, none⟩ = some (.int .u8 x.f0) := (blk_cell hb3 0).trans rfl; have hp1 : w3.cell? ⟨gp, 1, none⟩ = some (.int .i64 x.f1) := (blk_cell hb3 1).trans rfl; clear hb3))
        go_roundw
        case rel => exact ⟨i + 1, by go_num, by omega, by omega, HF3, HB3⟩
        case measure => simp [intOf]; omega
    · obtain rfl : i = (ws.length : Int) := by omega
      have hltb : decide ((ws.length : Int) < (ws.length : Int)) = false := decide_eq_false (by omega)
      have hf := HF.out
      rw [Int.toNat_natCast, List.drop_length, findW] at hf
      subst hf
      go_wp2
      go_ret2
      exact ⟨rfl, HB.out⟩

set_option maxHeartbeats 1000000 in
set_option maxRecDepth 100000 in
theorem value_any (skip : Bool) (A : Option Addr) (c : Nat) (ws : List S80) (cm : ByteArray) (letter other : Int) (gB : Nat) (w : World) (hr : Kd.C k80 w A ws.length ws)
    (hB : w.heap[gB]? = some (.cells #[.bool skip, .slice A ws.length c, .string cm] 54 (0, 0))) :
    Calls Try.prog 30 #[.int .u8 letter, .int .i64 other, .pointer (some ⟨gB, 0, none⟩)] w fun e w' => e = .returned (.int .i64 (valW ws letter other)) ∧ Below w.heap.size w w' := by
  have hu54 := Try.underlying54
  have HR := Aside0.mk hr
  have hb0 : w.cell? ⟨gB, 0, none⟩ = some (.bool skip) := (blk_cell hB 0).trans rfl
  have hb1 : w.cell? ⟨gB, 1, none⟩ = some (.slice A ws.length c) := (blk_cell hB 1).trans rfl
  have hb2 : w.cell? ⟨gB, 2, none⟩ = some (.string cm) := (blk_cell hB 2).trans rfl
  clear hr hB
  cases hq : findW ws letter with
  | none =>
    have HQ := Aside0.mk hq
    clear hq
    go_enter Try.func30, Try.ntmps30
    go_wp2_with (go_at_call 31; (with_reducible refine (find_any skip A c ws cm letter none _ HR.out HQ.out).mono ?_); rintro e w' ⟨rfl, hb⟩; have HB := Aside0.mk hb; clear hb hb0 hb1 hb2)
    go_ret
    exact ⟨by unfold valW; rw [HQ.out]; rfl, HB.out⟩
  | some v =>
    have HQ := Aside0.mk hq
    clear hq
    go_enter Try.func30, Try.ntmps30
    go_wp2_with (go_at_call 31; (with_reducible refine (find_any skip A c ws cm letter (some v) _ HR.out HQ.out).mono ?_); rintro e w' ⟨rfl, hb⟩; have HB := Aside0.mk hb; clear hb hb0 hb1 hb2)
    go_ret
    exact ⟨by unfold valW; rw [HQ.out]; rfl, HB.out⟩
end Go.Proofs.Ytmaochcdjmnffaa.P
