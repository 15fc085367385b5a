/- How the parameters are opened. -/
import Derived.Test.YtmkhmonbfikbpaaGB
import Derived.Test.YtmkhmonbfikbpaaEvRow
namespace Go.Proofs.Ytmkhmonbfikbpaa
open Go Go.ChangeShapes Go.WideShapes Go.ChangeAt Go.RowKit Go.Ev
set_option linter.unusedVariables false
theorem op37 {H : Type} {enc : TypeId × Value → H} {W : World} : Opens enc Try.prog W 37 e_Place ok_Place := by
  intro fuel cs x h
  obtain ⟨xs, n, _, _, hl, hlen, hf⟩ := DataW.trod_struct Try.underlying37 h
  have hl' : cs.length = 2 := hl.trans (by kernel_rfl)
  have hlen' : xs.length = 2 := hlen
  obtain ⟨a0, k0, r0⟩ := opField (i := 0) (off := 0) (sz := 1) (opensI Try.underlying3) (by kernel_rfl) (by omega) (hf 0 _ rfl)
  obtain ⟨a1, k1, r1⟩ := opField (i := 1) (off := 1) (sz := 1) (opensB Try.underlying4) (by kernel_rfl) (by omega) (hf 1 _ rfl)
  refine ⟨⟨a0, a1⟩, k0, ?_⟩
  have r : Rcells _ _ _ (cs.drop 0) := (opCut (to := 1) (by omega) r0 (opCut (to := 2) (by omega) r1 (opEnd hl')))
  exact r
theorem op39 {H : Type} {enc : TypeId × Value → H} {W : World} : Opens enc Try.prog W 39 e_Span ok_Span := by
  intro fuel cs x h
  obtain ⟨xs, n, _, _, hl, hlen, hf⟩ := DataW.trod_struct Try.underlying39 h
  have hl' : cs.length = 2 := hl.trans (by kernel_rfl)
  have hlen' : xs.length = 2 := hlen
  obtain ⟨a0, k0, r0⟩ := opField (i := 0) (off := 0) (sz := 1) (opensI Try.underlying3) (by kernel_rfl) (by omega) (hf 0 _ rfl)
  obtain ⟨a1, k1, r1⟩ := opField (i := 1) (off := 1) (sz := 1) (opensI Try.underlying3) (by kernel_rfl) (by omega) (hf 1 _ rfl)
  refine ⟨⟨a0, a1⟩, ⟨k0, k1⟩, ?_⟩
  have r : Rcells _ _ _ (cs.drop 0) := (opCut (to := 1) (by omega) r0 (opCut (to := 2) (by omega) r1 (opEnd hl')))
  exact r
theorem op41 {H : Type} {enc : TypeId × Value → H} {W : World} : Opens enc Try.prog W 41 e_Road ok_Road := by
  intro fuel cs x h
  obtain ⟨xs, n, _, _, hl, hlen, hf⟩ := DataW.trod_struct Try.underlying41 h
  have hl' : cs.length = 10 := hl.trans (by kernel_rfl)
  have hlen' : xs.length = 8 := hlen
  obtain ⟨a0, k0, r0⟩ := opField (i := 0) (off := 0) (sz := 1) (opensI Try.underlying3) (by kernel_rfl) (by omega) (hf 0 _ rfl)
  obtain ⟨a1, k1, r1⟩ := opField (i := 1) (off := 1) (sz := 1) (opensI Try.underlying3) (by kernel_rfl) (by omega) (hf 1 _ rfl)
  obtain ⟨a2, k2, r2⟩ := opField (i := 2) (off := 2) (sz := 1) (opensI Try.underlying3) (by kernel_rfl) (by omega) (hf 2 _ rfl)
  obtain ⟨a3, k3, r3⟩ := opField (i := 3) (off := 3) (sz := 1) (opensI Try.underlying3) (by kernel_rfl) (by omega) (hf 3 _ rfl)
  obtain ⟨a4, k4, r4⟩ := opField (i := 4) (off := 4) (sz := 1) (opensB Try.underlying4) (by kernel_rfl) (by omega) (hf 4 _ rfl)
  obtain ⟨a5, k5, r5⟩ := opField (i := 5) (off := 5) (sz := 1) (opensB Try.underlying4) (by kernel_rfl) (by omega) (hf 5 _ rfl)
  obtain ⟨a6, k6, r6⟩ := opField (i := 6) (off := 6) (sz := 2) op39 (by kernel_rfl) (by omega) (hf 6 _ rfl)
  obtain ⟨a7, k7, r7⟩ := opField (i := 7) (off := 8) (sz := 2) op39 (by kernel_rfl) (by omega) (hf 7 _ rfl)
  refine ⟨⟨a0, a1, a2, a3, a4, a5, a6.Low, a6.High, a7.Low, a7.High⟩, ⟨k0, k1, k2, k3, k6.1, k6.2, k7.1, k7.2⟩, ?_⟩
  have r : Rcells _ _ _ (cs.drop 0) := (opCut (to := 1) (by omega) r0 (opCut (to := 2) (by omega) r1 (opCut (to := 3) (by omega) r2 (opCut (to := 4) (by omega) r3 (opCut (to := 5) (by omega) r4 (opCut (to := 6) (by omega) r5 (opCut (to := 8) (by omega) r6 (opCut (to := 10) (by omega) r7 (opEnd hl')))))))))
  exact r
theorem op26 {H : Type} {enc : TypeId × Value → H} {W : World} : Opens enc Try.prog W 26 e_Mine ok_Mine := by
  intro fuel cs x h
  obtain ⟨xs, n, _, _, hl, hlen, hf⟩ := DataW.trod_struct Try.underlying26 h
  have hl' : cs.length = 2 := hl.trans (by kernel_rfl)
  have hlen' : xs.length = 2 := hlen
  obtain ⟨a0, k0, r0⟩ := opField (i := 0) (off := 0) (sz := 1) (opensL (d := d_Place) (s := 1) Try.underlying23 (by kernel_rfl) op37) (by kernel_rfl) (by omega) (hf 0 _ rfl)
  obtain ⟨a1, k1, r1⟩ := opField (i := 1) (off := 1) (sz := 1) (opensL (d := d_Road) (s := 9) Try.underlying24 (by kernel_rfl) op41) (by kernel_rfl) (by omega) (hf 1 _ rfl)
  refine ⟨⟨a0, a1⟩, ⟨k0, k1⟩, ?_⟩
  have r : Rcells _ _ _ (cs.drop 0) := (opCut (to := 1) (by omega) r0 (opCut (to := 2) (by omega) r1 (opEnd hl')))
  exact r
theorem op43 {H : Type} {enc : TypeId × Value → H} {W : World} : Opens enc Try.prog W 43 e_Edit ok_Edit := by
  intro fuel cs x h
  obtain ⟨xs, n, _, _, hl, hlen, hf⟩ := DataW.trod_struct Try.underlying43 h
  have hl' : cs.length = 16 := hl.trans (by kernel_rfl)
  have hlen' : xs.length = 5 := hlen
  obtain ⟨a0, k0, r0⟩ := opField (i := 0) (off := 0) (sz := 1) (opensI Try.underlying3) (by kernel_rfl) (by omega) (hf 0 _ rfl)
  obtain ⟨a1, k1, r1⟩ := opField (i := 1) (off := 1) (sz := 2) op37 (by kernel_rfl) (by omega) (hf 1 _ rfl)
  obtain ⟨a2, k2, r2⟩ := opField (i := 2) (off := 3) (sz := 10) op41 (by kernel_rfl) (by omega) (hf 2 _ rfl)
  obtain ⟨a3, k3, r3⟩ := opField (i := 3) (off := 13) (sz := 1) (opensI Try.underlying3) (by kernel_rfl) (by omega) (hf 3 _ rfl)
  obtain ⟨a4, k4, r4⟩ := opField (i := 4) (off := 14) (sz := 2) op39 (by kernel_rfl) (by omega) (hf 4 _ rfl)
  refine ⟨⟨a0, a1.Height, a1.Surface, a2.From, a2.To, a2.Length, a2.Area, a2.Walk, a2.Closed, a2.Rest_Low, a2.Rest_High, a2.Lift_Low, a2.Lift_High, a3, a4.Low, a4.High⟩, ⟨k0, k1, k2.1, k2.2.1, k2.2.2.1, k2.2.2.2.1, k2.2.2.2.2.1, k2.2.2.2.2.2.1, k2.2.2.2.2.2.2.1, k2.2.2.2.2.2.2.2, k3, k4.1, k4.2⟩, ?_⟩
  have r : Rcells _ _ _ (cs.drop 0) := (opCut (to := 1) (by omega) r0 (opCut (to := 3) (by omega) r1 (opCut (to := 13) (by omega) r2 (opCut (to := 14) (by omega) r3 (opCut (to := 16) (by omega) r4 (opEnd hl'))))))
  exact r
end Go.Proofs.Ytmkhmonbfikbpaa
