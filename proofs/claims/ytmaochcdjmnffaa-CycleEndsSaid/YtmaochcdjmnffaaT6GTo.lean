/- The closure 'to' of swarf/cycle.Expand (function 28): what a call of it does to the two captured variables. -/
import Derived.Test.YtmaochcdjmnffaaT6Px0
import Derived.Test.YtmaochcdjmnffaaT6Px2
namespace Go.Proofs.Ytmaochcdjmnffaa.P
open Go.RowKit Go.Proofs.YtmaochcdjmnffaaW.PrintWords Go.Proofs.YtmaochcdjmnffaaW.PrintLast Go.Proofs.YtmaochcdjmnffaaW.PrintMore
attribute [local go_sem high] eqA36
set_option linter.unusedVariables false
set_option linter.unusedSimpArgs false

set_option maxHeartbeats 1000000 in
set_option maxRecDepth 100000 in
theorem to_same (kind x y z rate fx fy fz : Int) (gF gO : Nat) (w : World) (he : (x == fx && (y == fy && (z == fz))) = true)
    (hF : w.heap[gF]? = some (.cells #[.int .i64 fx, .int .i64 fy, .int .i64 fz] 36 (0, 0))) :
    Calls Try.prog 28 #[.int .i64 kind, .agg #[.int .i64 x, .int .i64 y, .int .i64 z], .int .i64 rate, .pointer (some ⟨gF, 0, none⟩), .pointer (some ⟨gO, 0, none⟩)] w
      fun e w' => e = .returned (.tuple #[]) ∧ Below w.heap.size w w' := by
  have hu36 := Try.underlying36
  have BF := Aside0.mk hF
  clear hF
  go_enter Try.func28, Try.ntmps28
  go_wp2_with (refine box_event ?hg (N := 6) ?hd (cs := #[.int .i64 x, .int .i64 y, .int .i64 z]) (t := 36) ?hr ?_; (case hd => rfl); (case hg => rfl); (case hr => first | (go_simp; done) | (go_simp; rfl)); intro gb hg w3 hbox hb; have BP := Aside0.mk hbox; have HB := Aside0.mk hb; have BF' := Aside0.mk (blk_below BF.out hb); clear hg hb hbox; have hc0 : w3.cell? ⟨gb, 0, none⟩ = some (.int .i64 x) := (blk_cell BP.out 0).trans rfl; have hc1 : w3.cell? ⟨gb, 1, none⟩ = some (.int .i64 y) := (blk_cell BP.out 1).trans rfl; have hc2 : w3.cell? ⟨gb, 2, none⟩ = some (.int .i64 z) := (blk_cell BP.out 2).trans rfl; have hd0 : w3.cell? ⟨gF, 0, none⟩ = some (.int .i64 fx) := (blk_cell BF'.out 0).trans rfl; have hd1 : w3.cell? ⟨gF, 1, none⟩ = some (.int .i64 fy) := (blk_cell BF'.out 1).trans rfl; have hd2 : w3.cell? ⟨gF, 2, none⟩ = some (.int .i64 fz) := (blk_cell BF'.out 2).trans rfl)
  go_end0
  exact ⟨rfl, HB.out⟩
/-- What 'to' may write: the two variables, and the row of moves. -/
def ToSet (gF gO : Nat) (v : Value) : Nat → Prop := fun k => k = gF ∨ k = gO ∨ some k = v.ownBlock

set_option maxHeartbeats 1000000 in
set_option maxRecDepth 100000 in
theorem to_new (kind x y z rate fx fy fz : Int) (gF gO : Nat) (v : Value) (l : List S45) (w0 w : World) (he : (x == fx && (y == fy && (z == fz))) = false)
    (hF : w.heap[gF]? = some (.cells #[.int .i64 fx, .int .i64 fy, .int .i64 fz] 36 (0, 0))) (hO : w.heap[gO]? = some (.cells #[v] 38 (0, 0)))
    (hR : Kd.R k45 45 w w0.heap.size (fun _ => True) v l) (hB : Below w0.heap.size w0 w) (hgF : w0.heap.size ≤ gF) (hgO : w0.heap.size ≤ gO) (hl : l.length < 100000) :
    Calls Try.prog 28 #[.int .i64 kind, .agg #[.int .i64 x, .int .i64 y, .int .i64 z], .int .i64 rate, .pointer (some ⟨gF, 0, none⟩), .pointer (some ⟨gO, 0, none⟩)] w
      fun e w' => e = .returned (.tuple #[]) ∧ ∃ v', w'.heap[gF]? = some (.cells #[.int .i64 x, .int .i64 y, .int .i64 z] 36 (0, 0)) ∧ w'.heap[gO]? = some (.cells #[v'] 38 (0, 0)) ∧
        Kd.R k45 45 w' w0.heap.size (fun _ => True) v' (l ++ [⟨kind, ⟨x, y, z⟩, ⟨0, 0⟩, rate⟩]) ∧ Below w0.heap.size w0 w' ∧ Kept w w' (ToSet gF gO v) := by
  have hu36 := Try.underlying36
  have hu45 := Try.underlying45
  have hu38 := Try.underlying38
  have hne : gF ≠ gO := by
    rintro rfl
    rw [hF] at hO
    injection hO with hO
    injection hO with _ hO
    exact absurd hO (by decide)
  obtain ⟨A0, c0, rfl⟩ := Kd.R_slice hR
  have BF := Aside0.mk hF
  have BO := Aside0.mk hO
  have HO := Aside0.mk hR
  have HB0 := Aside0.mk hB
  clear hF hO hR hB
  go_enter Try.func28, Try.ntmps28
  go_wp2_with (first | ((with_reducible refine gate_dst (N := 6) rfl ?_); refine box_event ?hg (N := 6) ?hd (cs := #[.int .i64 x, .int .i64 y, .int .i64 z]) (t := 36) ?hr ?_; (case hd => rfl); (case hg => rfl); (case hr => first | (go_simp; done) | (go_simp; rfl)); intro gb hg w3 hbox hb; have BP := Aside0.mk hbox; have HB := Aside0.mk hb; have HGb := Aside0.mk (show gb ≠ gO by have := blk_lt BO.out; omega); have BF' := Aside0.mk (blk_below BF.out hb); have BO' := Aside0.mk (blk_below BO.out hb); have HO' := Aside0.mk (Kd.R_below HO.out hb); clear hg hb hbox; have hc0 : w3.cell? ⟨gb, 0, none⟩ = some (.int .i64 x) := (blk_cell BP.out 0).trans rfl; have hc1 : w3.cell? ⟨gb, 1, none⟩ = some (.int .i64 y) := (blk_cell BP.out 1).trans rfl; have hc2 : w3.cell? ⟨gb, 2, none⟩ = some (.int .i64 z) := (blk_cell BP.out 2).trans rfl; have hd0 : w3.cell? ⟨gF, 0, none⟩ = some (.int .i64 fx) := (blk_cell BF'.out 0).trans rfl; have hd1 : w3.cell? ⟨gF, 1, none⟩ = some (.int .i64 fy) := (blk_cell BF'.out 1).trans rfl; have hd2 : w3.cell? ⟨gF, 2, none⟩ = some (.int .i64 fz) := (blk_cell BF'.out 2).trans rfl; have he0 : w3.cell? ⟨gO, 0, none⟩ = some (.slice A0 l.length c0) := (blk_cell BO'.out 0).trans rfl) | ((with_reducible refine gate_builtin (b := .append) (xs := #[.tmp 11, .tmp 16]) rfl ?_); at_builtin; refine Kd.R_append k45 (w0 := w0) w0.heap.size rfl (.tmp 11) (.tmp 16) 38 45 (.agg #[(.int .i64 0), (.int .i64 0), (.int .i64 0), (.int .i64 0), (.int .i64 0), (.int .i64 0), (.int .i64 0)]) 56 rfl Try.underlying38 info45 rfl (by decide) (by omega) (.slice A0 l.length c0) l ⟨kind, ⟨x, y, z⟩, ⟨0, 0⟩, rate⟩ [.int .i64 kind, .int .i64 x, .int .i64 y, .int .i64 z, .int .i64 0, .int .i64 0, .int .i64 rate] (fun _ => True) (fun _ => False) rfl rfl ?aP (fun _ hk => hk.elim) ?aF ?aO ?aB ?aS ?aL ?_; (case aP => exact k45_mkM _ _ _ _); (case aF => exact (fun _ _ => trivial)); (case aO => exact HO'.out); (case aB => exact below_then HB0.out HB0.out.size HB.out); (case aS => exact Nat.le_trans HB0.out.size HB.out.size); (case aL => omega); intro v1 w4 ho hb2 hg hat; have HO2 := Aside0.mk ho; have HB2 := Aside0.mk hb2; have HG := Aside0.mk hg; have BF2 := Aside0.mk (blk_grown BF'.out hg (Kd.R_ne HO'.out BF'.out (by decide))); have BO2 := Aside0.mk (blk_grown BO'.out hg (Kd.R_ne HO'.out BO'.out (by decide))); have BP2 := Aside0.mk (blk_grown BP.out hg (Kd.R_ne HO'.out BP.out (by decide))); have HSl := Kd.R_slice ho; obtain ⟨A1, c1, rfl⟩ := HSl; clear ho hb2 hg hat hc0 hc1 hc2 hd0 hd1 hd2 he0; have he4 : w4.cell? ⟨gO, 0, none⟩ = some (.slice A0 l.length c0) := (blk_cell BO2.out 0).trans rfl; have hf4 := blk_frozen BO2.out 0) | ((with_reducible refine gate_store (t := 38) (p := 4) rfl ?_); refine store_event (t := 38) (p := 4) (w1 := w4.setCell ⟨gO, 0, none⟩ (.slice A1 (l ++ [(⟨kind, ⟨x, y, z⟩, ⟨0, 0⟩, rate⟩ : S45)]).length c1)) rfl rfl rfl ?hs ?_; (case hs => first | (go_simp; done) | (go_simp; rfl)); intro w5 hw5; have BO5 := Aside0.mk (show w5.heap[gO]? = some (.cells #[.slice A1 (l ++ [(⟨kind, ⟨x, y, z⟩, ⟨0, 0⟩, rate⟩ : S45)]).length c1] 38 (0, 0)) by rw [hw5]; exact blk_put BO2.out 0 _ rfl); have BF5 := Aside0.mk (show w5.heap[gF]? = some (.cells #[.int .i64 fx, .int .i64 fy, .int .i64 fz] 36 (0, 0)) by rw [hw5]; exact (Below.heap_setCell w4 _ _ gF hne).trans BF2.out); have BP5 := Aside0.mk (show w5.heap[gb]? = some (.cells #[.int .i64 x, .int .i64 y, .int .i64 z] 36 (0, 0)) by rw [hw5]; exact (Below.heap_setCell w4 _ _ gb HGb.out).trans BP2.out); have HO5 := Aside0.mk (show Kd.R k45 45 w5 w0.heap.size (fun _ => True) (.slice A1 (l ++ [(⟨kind, ⟨x, y, z⟩, ⟨0, 0⟩, rate⟩ : S45)]).length c1) (l ++ [(⟨kind, ⟨x, y, z⟩, ⟨0, 0⟩, rate⟩ : S45)]) by rw [hw5]; exact Kd.R_set HO2.out BO2.out (by decide) 0 _); have HB5 := Aside0.mk (show Below w0.heap.size w0 w5 by rw [hw5]; exact below_set HB2.out hgO); have HK5 := Aside0.mk (show Kept w w5 (ToSet gF gO (.slice A0 l.length c0)) by rw [hw5]; exact Kept.setCell (Kept.of_grown HG.out (Kept.of_below HB.out _) (fun k hk => .inl (.inr (.inr hk.symm)))) (.inl (.inr (.inl rfl))) _); clear hw5 he4 hf4; have hp0 : w5.cell? ⟨gb, 0, none⟩ = some (.int .i64 x) := (blk_cell BP5.out 0).trans rfl; have hp1 : w5.cell? ⟨gb, 1, none⟩ = some (.int .i64 y) := (blk_cell BP5.out 1).trans rfl; have hp2 : w5.cell? ⟨gb, 2, none⟩ = some (.int .i64 z) := (blk_cell BP5.out 2).trans rfl; have hq0 : w5.cell? ⟨gF, 0, none⟩ = some (.int .i64 fx) := (blk_cell BF5.out 0).trans rfl; have hq1 : w5.cell? ⟨gF, 1, none⟩ = some (.int .i64 fy) := (blk_cell BF5.out 1).trans rfl; have hq2 : w5.cell? ⟨gF, 2, none⟩ = some (.int .i64 fz) := (blk_cell BF5.out 2).trans rfl; have hr0 := blk_frozen BF5.out 0; have hr1 := blk_frozen BF5.out 1; have hr2 := blk_frozen BF5.out 2))
  go_end0
  refine ⟨rfl, .slice A1 (l ++ [(⟨kind, ⟨x, y, z⟩, ⟨0, 0⟩, rate⟩ : S45)]).length c1, ?_, ?_, ?_, ?_, ?_⟩
  · exact blk_put (blk_put (blk_put BF5.out 0 _ rfl) 1 _ rfl) 2 _ rfl
  · exact (Below.heap_setCell _ _ _ gO (Ne.symm hne)).trans ((Below.heap_setCell _ _ _ gO (Ne.symm hne)).trans ((Below.heap_setCell _ _ _ gO (Ne.symm hne)).trans BO5.out))
  · exact Kd.R_set (Kd.R_set (Kd.R_set HO5.out BF5.out (by decide) 0 _) (blk_set BF5.out 0 _) (by decide) 1 _) (blk_set (blk_set BF5.out 0 _) 1 _) (by decide) 2 _
  · exact below_set (below_set (below_set HB5.out hgF) hgF) hgF
  · exact Kept.setCell (Kept.setCell (Kept.setCell HK5.out (.inl (.inl rfl)) _) (.inl (.inl rfl)) _) (.inl (.inl rfl)) _
end Go.Proofs.Ytmaochcdjmnffaa.P
