/- Texts of this claim, laid together by a program (wip/g/merge5.py): OpenN. -/
import Derived.Test.YtbefbhghmommhaaGreatDoorZWr24
set_option maxRecDepth 100000
set_option linter.unusedVariables false
namespace Go.Proofs.YtbefbhghmommhaaGreatDoor.Opn
open Go.Joins Go.Deep Go.ChangeShapes Go.WideShapes Go.RowKit Go.Proofs.YtbefbhghmommhaaGreatDoorW.PrintWords Go.Proofs.YtbefbhghmommhaaGreatDoor.MWo
theorem opens_part : Opens Tryz.prog 68 k68 (fun _ => True) := by
  intro H enc W fuel cs x h
  obtain ⟨y0, y1, n, _, hl, h0, h1⟩ := Go.ChangeShapes.trod_struct2 Tryz.underlying68 h
  have e2 : Tryz.prog.cellsOf 68 = 2 := by kernel_rfl
  have e1 : Tryz.prog.cellsOf 3 = 1 := by kernel_rfl
  rw [e2] at hl
  obtain ⟨a, b, rfl⟩ : ∃ a b, cs = [a, b] := by
    match cs, hl with
    | [a, b], _ => exact ⟨a, b, rfl⟩
  simp only [e1, List.drop_zero, List.drop_succ_cons, List.take_succ_cons, List.take_zero] at h0 h1
  obtain ⟨p, hp, _, _⟩ := DataW.trod_int Tryz.underlying3 h0
  obtain ⟨q, hq, _, _⟩ := DataW.trod_int Tryz.underlying3 h1
  simp only [List.cons.injEq, and_true] at hp hq
  subst hp
  subst hq
  exact ⟨⟨p, q⟩, k68_mk W ⟨p, q⟩, trivial⟩
theorem opens_two : Opens Tryz.prog 69 k69 (fun _ => True) := by
  intro H enc W fuel cs x h
  obtain ⟨xs, m, _, _, hl, hxl, hel⟩ := DataW.trod_array Tryz.underlying69 h
  rw [show Tryz.prog.cellsOf 69 = 2 by kernel_rfl] at hl
  obtain ⟨u, v, rfl⟩ : ∃ u v, cs = [u, v] := by
    match cs, hl with
    | [u, v], _ => exact ⟨u, v, rfl⟩
  obtain ⟨x, y, rfl⟩ : ∃ x y, xs = [x, y] := by
    match xs, hxl with
    | [x, y], _ => exact ⟨x, y, rfl⟩
  have e0 := hel 0 (by omega)
  have e1 := hel 1 (by omega)
  rw [show Tryz.prog.cellsOf 3 = 1 by kernel_rfl] at e0 e1
  simp at e0 e1
  obtain ⟨a, ha, ra, wa⟩ := DataW.trod_int Tryz.underlying3 e0
  obtain ⟨b, hb, rb, wb⟩ := DataW.trod_int Tryz.underlying3 e1
  simp at ha hb
  subst ha hb
  exact ⟨⟨a, b⟩, k69_mk W ⟨a, b⟩, trivial⟩
theorem opens_link : Opens Tryz.prog 71 k71 (fun _ => True) := by
  intro H enc W fuel cs x h
  obtain ⟨xs, n, _, rfl, hl, hlen, hf⟩ := DataW.trod_struct Tryz.underlying71 h
  rw [show Tryz.prog.cellsOf 71 = 6 by kernel_rfl] at hl
  match xs, hlen, cs, hl with
  | [y0, y1, y2, y3], _, [v0, v1, v2, v3, v4, v5], _ =>
    have g0 : DataW.trod enc Tryz.prog W 0 (fun _ => true) true n 3 (([v0, v1, v2, v3, v4, v5].drop 0).take (Tryz.prog.cellsOf 3)) = some y0 := hf 0 _ rfl
    have g1 : DataW.trod enc Tryz.prog W 0 (fun _ => true) true n 3 (([v0, v1, v2, v3, v4, v5].drop 1).take (Tryz.prog.cellsOf 3)) = some y1 := hf 1 _ rfl
    have g2 : DataW.trod enc Tryz.prog W 0 (fun _ => true) true n 69 (([v0, v1, v2, v3, v4, v5].drop 2).take (Tryz.prog.cellsOf 69)) = some y2 := hf 2 _ rfl
    have g3 : DataW.trod enc Tryz.prog W 0 (fun _ => true) true n 69 (([v0, v1, v2, v3, v4, v5].drop 4).take (Tryz.prog.cellsOf 69)) = some y3 := hf 3 _ rfl
    rw [show Tryz.prog.cellsOf 3 = 1 by kernel_rfl] at g0 g1
    rw [show Tryz.prog.cellsOf 69 = 2 by kernel_rfl] at g2 g3
    obtain ⟨a, ha, _, _⟩ := DataW.trod_int Tryz.underlying3 (show DataW.trod enc Tryz.prog W 0 (fun _ => true) true n 3 [v0] = some y0 by simpa using g0)
    obtain ⟨b, hb, _, _⟩ := DataW.trod_int Tryz.underlying3 (show DataW.trod enc Tryz.prog W 0 (fun _ => true) true n 3 [v1] = some y1 by simpa using g1)
    obtain ⟨p, hp, _⟩ := opens_two enc W n _ _ (show DataW.trod enc Tryz.prog W 0 (fun _ => true) true n 69 [v2, v3] = some y2 by simpa using g2)
    obtain ⟨q, hq, _⟩ := opens_two enc W n _ _ (show DataW.trod enc Tryz.prog W 0 (fun _ => true) true n 69 [v4, v5] = some y3 by simpa using g3)
    have ep := k69_open hp
    have eq := k69_open hq
    simp only [List.cons.injEq, and_true] at ha hb ep eq
    obtain ⟨rfl, rfl⟩ := ep
    obtain ⟨rfl, rfl⟩ := eq
    subst ha hb
    exact ⟨⟨a, b, p, q⟩, k71_mk W ⟨a, b, p, q⟩, trivial⟩
theorem opens_parts : Opens Tryz.prog 22 (Kd.slice 68 k68) (fun l => (∀ x ∈ l, True) ∧ l.length ≤ 9223372036854775807) := opens_slice Tryz.underlying22 (by kernel_rfl) opens_part
theorem opens_links : Opens Tryz.prog 23 (Kd.slice 71 k71) (fun l => (∀ x ∈ l, True) ∧ l.length ≤ 9223372036854775807) := opens_slice Tryz.underlying23 (by kernel_rfl) opens_link
set_option maxHeartbeats 4000000 in
theorem open_config {H : Type} (enc : TypeId × Value → H) (W : World) (fuel : Nat) (cs : List Value) (x : DataW H × List MemPlace) (h : DataW.trod enc Tryz.prog W 0 (fun _ => true) true fuel 25 cs = some x) :
    ∃ (A0 : Option Addr) (c0 : Nat) (P : List S68) (A1 : Option Addr) (c1 : Nat) (Q : List S71) (a2 a3 a4 a5 a6 a7 a8 a9 a10 a11 a12 : Int), cs = [.slice A0 P.length c0, .slice A1 Q.length c1, .int .i64 a2, .int .i64 a3, .int .i64 a4, .int .i64 a5, .int .i64 a6, .int .i64 a7, .int .i64 a8, .int .i64 a9, .int .i64 a10, .int .i64 a11, .int .i64 a12] ∧ P.length ≤ c0 ∧ Kd.C k68 W A0 P.length P ∧ Q.length ≤ c1 ∧ Kd.C k71 W A1 Q.length Q := by
  obtain ⟨xs, n, _, rfl, hl, hlen, hf⟩ := DataW.trod_struct Tryz.underlying25 h
  rw [show Tryz.prog.cellsOf 25 = 13 by kernel_rfl] at hl
  match xs, hlen, cs, hl with
  | [y0, y1, y2, y3, y4, y5, y6, y7, y8, y9, y10, y11, y12], _, [v0, v1, v2, v3, v4, v5, v6, v7, v8, v9, v10, v11, v12], _ =>
    have g0 : DataW.trod enc Tryz.prog W 0 (fun _ => true) true n 22 (([v0, v1, v2, v3, v4, v5, v6, v7, v8, v9, v10, v11, v12].drop 0).take (Tryz.prog.cellsOf 22)) = some y0 := hf 0 _ rfl
    have g1 : DataW.trod enc Tryz.prog W 0 (fun _ => true) true n 23 (([v0, v1, v2, v3, v4, v5, v6, v7, v8, v9, v10, v11, v12].drop 1).take (Tryz.prog.cellsOf 23)) = some y1 := hf 1 _ rfl
    have g2 : DataW.trod enc Tryz.prog W 0 (fun _ => true) true n 3 (([v0, v1, v2, v3, v4, v5, v6, v7, v8, v9, v10, v11, v12].drop 2).take (Tryz.prog.cellsOf 3)) = some y2 := hf 2 _ rfl
    have g3 : DataW.trod enc Tryz.prog W 0 (fun _ => true) true n 3 (([v0, v1, v2, v3, v4, v5, v6, v7, v8, v9, v10, v11, v12].drop 3).take (Tryz.prog.cellsOf 3)) = some y3 := hf 3 _ rfl
    have g4 : DataW.trod enc Tryz.prog W 0 (fun _ => true) true n 3 (([v0, v1, v2, v3, v4, v5, v6, v7, v8, v9, v10, v11, v12].drop 4).take (Tryz.prog.cellsOf 3)) = some y4 := hf 4 _ rfl
    have g5 : DataW.trod enc Tryz.prog W 0 (fun _ => true) true n 3 (([v0, v1, v2, v3, v4, v5, v6, v7, v8, v9, v10, v11, v12].drop 5).take (Tryz.prog.cellsOf 3)) = some y5 := hf 5 _ rfl
    have g6 : DataW.trod enc Tryz.prog W 0 (fun _ => true) true n 3 (([v0, v1, v2, v3, v4, v5, v6, v7, v8, v9, v10, v11, v12].drop 6).take (Tryz.prog.cellsOf 3)) = some y6 := hf 6 _ rfl
    have g7 : DataW.trod enc Tryz.prog W 0 (fun _ => true) true n 3 (([v0, v1, v2, v3, v4, v5, v6, v7, v8, v9, v10, v11, v12].drop 7).take (Tryz.prog.cellsOf 3)) = some y7 := hf 7 _ rfl
    have g8 : DataW.trod enc Tryz.prog W 0 (fun _ => true) true n 3 (([v0, v1, v2, v3, v4, v5, v6, v7, v8, v9, v10, v11, v12].drop 8).take (Tryz.prog.cellsOf 3)) = some y8 := hf 8 _ rfl
    have g9 : DataW.trod enc Tryz.prog W 0 (fun _ => true) true n 3 (([v0, v1, v2, v3, v4, v5, v6, v7, v8, v9, v10, v11, v12].drop 9).take (Tryz.prog.cellsOf 3)) = some y9 := hf 9 _ rfl
    have g10 : DataW.trod enc Tryz.prog W 0 (fun _ => true) true n 3 (([v0, v1, v2, v3, v4, v5, v6, v7, v8, v9, v10, v11, v12].drop 10).take (Tryz.prog.cellsOf 3)) = some y10 := hf 10 _ rfl
    have g11 : DataW.trod enc Tryz.prog W 0 (fun _ => true) true n 3 (([v0, v1, v2, v3, v4, v5, v6, v7, v8, v9, v10, v11, v12].drop 11).take (Tryz.prog.cellsOf 3)) = some y11 := hf 11 _ rfl
    have g12 : DataW.trod enc Tryz.prog W 0 (fun _ => true) true n 3 (([v0, v1, v2, v3, v4, v5, v6, v7, v8, v9, v10, v11, v12].drop 12).take (Tryz.prog.cellsOf 3)) = some y12 := hf 12 _ rfl
    rw [show Tryz.prog.cellsOf 22 = 1 by kernel_rfl] at g0
    rw [show Tryz.prog.cellsOf 23 = 1 by kernel_rfl] at g1
    rw [show Tryz.prog.cellsOf 3 = 1 by kernel_rfl] at g2 g3 g4 g5 g6 g7 g8 g9 g10 g11 g12
    obtain ⟨P, ⟨A0, c0, e0, l0, C0⟩, _⟩ := opens_parts enc W n _ _ (show DataW.trod enc Tryz.prog W 0 (fun _ => true) true n 22 [v0] = some y0 by simpa using g0)
    obtain ⟨Q, ⟨A1, c1, e1, l1, C1⟩, _⟩ := opens_links enc W n _ _ (show DataW.trod enc Tryz.prog W 0 (fun _ => true) true n 23 [v1] = some y1 by simpa using g1)
    obtain ⟨a2, e2, _, _⟩ := DataW.trod_int Tryz.underlying3 (show DataW.trod enc Tryz.prog W 0 (fun _ => true) true n 3 [v2] = some y2 by simpa using g2)
    obtain ⟨a3, e3, _, _⟩ := DataW.trod_int Tryz.underlying3 (show DataW.trod enc Tryz.prog W 0 (fun _ => true) true n 3 [v3] = some y3 by simpa using g3)
    obtain ⟨a4, e4, _, _⟩ := DataW.trod_int Tryz.underlying3 (show DataW.trod enc Tryz.prog W 0 (fun _ => true) true n 3 [v4] = some y4 by simpa using g4)
    obtain ⟨a5, e5, _, _⟩ := DataW.trod_int Tryz.underlying3 (show DataW.trod enc Tryz.prog W 0 (fun _ => true) true n 3 [v5] = some y5 by simpa using g5)
    obtain ⟨a6, e6, _, _⟩ := DataW.trod_int Tryz.underlying3 (show DataW.trod enc Tryz.prog W 0 (fun _ => true) true n 3 [v6] = some y6 by simpa using g6)
    obtain ⟨a7, e7, _, _⟩ := DataW.trod_int Tryz.underlying3 (show DataW.trod enc Tryz.prog W 0 (fun _ => true) true n 3 [v7] = some y7 by simpa using g7)
    obtain ⟨a8, e8, _, _⟩ := DataW.trod_int Tryz.underlying3 (show DataW.trod enc Tryz.prog W 0 (fun _ => true) true n 3 [v8] = some y8 by simpa using g8)
    obtain ⟨a9, e9, _, _⟩ := DataW.trod_int Tryz.underlying3 (show DataW.trod enc Tryz.prog W 0 (fun _ => true) true n 3 [v9] = some y9 by simpa using g9)
    obtain ⟨a10, e10, _, _⟩ := DataW.trod_int Tryz.underlying3 (show DataW.trod enc Tryz.prog W 0 (fun _ => true) true n 3 [v10] = some y10 by simpa using g10)
    obtain ⟨a11, e11, _, _⟩ := DataW.trod_int Tryz.underlying3 (show DataW.trod enc Tryz.prog W 0 (fun _ => true) true n 3 [v11] = some y11 by simpa using g11)
    obtain ⟨a12, e12, _, _⟩ := DataW.trod_int Tryz.underlying3 (show DataW.trod enc Tryz.prog W 0 (fun _ => true) true n 3 [v12] = some y12 by simpa using g12)
    simp only [List.cons.injEq, and_true] at e0 e1 e2 e3 e4 e5 e6 e7 e8 e9 e10 e11 e12
    subst e0 e1 e2 e3 e4 e5 e6 e7 e8 e9 e10 e11 e12
    exact ⟨A0, c0, P, A1, c1, Q, a2, a3, a4, a5, a6, a7, a8, a9, a10, a11, a12, rfl, l0, C0, l1, C1⟩
end Go.Proofs.YtbefbhghmommhaaGreatDoor.Opn
