/- The example of the document: cells without nodes, and two short lists. -/
import Derived.Test.YtbiofobpafpgfaaDoorHWm
import Derived.Test.YtbiofobpafpgfaaDoorMWox8
import Derived.Test.YtbiofobpafpgfaaDoorMWox7
set_option linter.unusedVariables false
set_option linter.unusedSimpArgs false
set_option maxRecDepth 100000
namespace Go.Proofs.YtbiofobpafpgfaaDoor.MWo
open Go.RowKit Go.Maps Go.Proofs.YtbiofobpafpgfaaDoorW.PrintWords Go.Proofs.YtbiofobpafpgfaaDoorW.PrintLast Go.Proofs.YtbiofobpafpgfaaDoorW.PrintMore
theorem gspread_nil (A : Option Addr) (c : Nat) (w : World) : Calls Tryd.prog 13 #[.slice A 0 c] w fun e w' => e = .returned (.tuple #[.int .i64 0, .bool false]) ∧ w' = w := by
  go_enter Tryd.func13, Tryd.ntmps13
  go_wp2
  go_ret2
  exact ⟨rfl, rfl⟩
theorem index_nil (A : Option Addr) (c : Nat) (v : Value) (w : World) : Calls Tryd.prog 29 #[.slice A 0 c, v] w fun e w' => e = .returned (.int .i64 (-1)) ∧ w' = w := by
  go_enter Tryd.func29, Tryd.ntmps29
  go_wp2
  refine wp_loop_rounds 1 ?_
  rw [rounds_succ]
  go_wp2
  go_ret
  exact ⟨rfl, rfl⟩
theorem contains_nil (A : Option Addr) (c : Nat) (v : Value) (w : World) : Calls Tryd.prog 18 #[.slice A 0 c, v] w fun e w' => e = .returned (.bool false) ∧ w' = w := by
  go_enter Tryd.func18, Tryd.ntmps18
  go_wp2_with fail
  refine (index_nil A c v w).mono ?_
  rintro e w1 ⟨rfl, rfl⟩
  go_wp2_with fail
  go_ret
  exact ⟨rfl, rfl⟩
theorem spread_nil (w : World) : Calls Tryd.prog 9 #[.agg #[.slice none 0 0, .bool false, .int .i64 0, .slice none 0 0]] w fun e w' => e = .returned (.tuple #[.int .i64 0, .bool false]) ∧ Below w.heap.size w w' := by
  go_enter Tryd.func9, Tryd.ntmps9
  go_wp2_with fail
  have HB := Aside0.mk (below_alloc (Below.refl w.heap.size w) (.cells #[.slice none 0 0, .bool false, .int .i64 0, .slice none 0 0] 43))
  refine (watch_starts.calls 9 none 0 [] false 0 none 0 [] [] _ (Kd.C_nil _ _) (Nat.le_refl _) (Kd.C_nil _ _) (Nat.le_refl _) rfl).mono ?_
  rintro e w1 ⟨v, rfl, ho, hb⟩
  obtain ⟨A, c, rfl⟩ := Kd.R_slice ho
  have HB1 := Aside0.mk (below_step HB.out hb)
  clear ho hb
  go_wp2_with fail
  refine (gspread_nil A c w1).mono ?_
  rintro e w2 ⟨rfl, rfl⟩
  go_wp2_with fail
  go_ret2
  exact ⟨rfl, HB1.out⟩
theorem agree_nil (w : World) : Calls Tryd.prog 11 #[.agg #[.slice none 0 0, .bool false, .int .i64 0, .slice none 0 0]] w fun e w' => e = .returned (.bool true) ∧ Below w.heap.size w w' := by
  go_enter Tryd.func11, Tryd.ntmps11
  go_wp2_with fail
  have HB := Aside0.mk (below_alloc (Below.refl w.heap.size w) (.cells #[.slice none 0 0, .bool false, .int .i64 0, .slice none 0 0] 43))
  refine (watch_synced.calls 9 (fun _ => False) none 0 [] false 0 none 0 [] [] _ (Kd.V_nil _ _ _ _ _) (Kd.C_nil _ _) (Nat.le_refl _) rfl).mono ?_
  rintro e w1 ⟨v, rfl, ho, hb⟩
  obtain ⟨A, c, rfl⟩ := Kd.N_slice ho
  have HB1 := Aside0.mk (below_step HB.out hb)
  clear ho hb
  go_wp2_with fail
  have HB2 := Aside0.mk (below_alloc HB1.out (.cells #[.slice A ([] : List S63).length c] 38))
  refine (contains_nil A c _ _).mono ?_
  rintro e w2 ⟨rfl, rfl⟩
  go_wp2_with fail
  go_ret
  exact ⟨rfl, HB2.out⟩
theorem base_nil (w : World) : Calls Tryd.prog 10 #[.agg #[.slice none 0 0, .slice none 0 0, .int .i64 0, .int .i64 0, .int .i64 0, .int .i64 0, .int .i64 0, .int .i64 0, .int .i64 0, .int .i64 0, .int .i64 0, .int .i64 0, .int .i64 0], .slice none 0 0] w fun e w' => e = .returned (.tuple #[.int .i64 (-1), .bool false]) ∧ Below w.heap.size w w' := by
  go_enter Tryd.func10, Tryd.ntmps10
  go_wp2_with fail
  refine wp_loop_rounds 1 ?_
  rw [rounds_succ]
  go_wp2_with fail
  go_ret2
  exact ⟨rfl, by repeat (first | exact Below.refl _ _ | apply below_alloc)⟩
/-- One message, laid by the call itself. -/
theorem one_got (w : World) (a b : Int) (g : Bool) : Kd.C lgk (w.alloc (.cells #[.int .i64 a, .int .i64 b, .bool g, .slice none 0 0] 52)) (some ⟨w.heap.size, 0, none⟩) [(⟨a, b, g, []⟩ : S52)].length [⟨a, b, g, []⟩] := by
  have hb := heap_alloc_new w (.cells #[.int .i64 a, .int .i64 b, .bool g, .slice none 0 0] 52)
  refine ⟨rfl, (show (1 : Nat) ≤ 9223372036854775807 by decide), fun _ => ⟨_, rfl, fun j p hp => ?_⟩⟩
  cases j with
  | zero =>
    simp only [List.getElem?_cons_zero, Option.some.injEq] at hp
    subst hp
    refine ⟨[.int .i64 a, .int .i64 b, .bool g, .slice none 0 0], rfl, ⟨none, 0, 0, rfl⟩, fun i u hu => ?_⟩
    have e : (⟨w.heap.size, 0, none⟩ : Addr).add (0 * lgk.sz + i) = ⟨w.heap.size, i, none⟩ := by rw [Nat.zero_mul, Nat.zero_add, add_at, Nat.zero_add]
    rw [e]
    exact (blk_cell hb i).trans (by rw [← hu]; simp)
  | succ j => simp at hp
theorem alive_walk (w : World) : Calls Tryd.prog 4 #[] w fun e w' => e = .returned (.bool true) ∧ Below w.heap.size w w' := by
  go_enter Tryd.func4, Tryd.ntmps4
  go_wp2_with fail
  refine (spread_nil _).mono ?_
  rintro e w1 ⟨rfl, hb⟩
  have HB1 := Aside0.mk hb
  clear hb
  go_wp2_with fail
  refine (base_nil _).mono ?_
  rintro e w2 ⟨rfl, hb⟩
  have HB2 := Aside0.mk (below_step HB1.out hb)
  clear hb
  go_wp2_with fail
  refine (agree_nil _).mono ?_
  rintro e w3 ⟨rfl, hb⟩
  have HB3 := Aside0.mk (below_step HB2.out hb)
  clear hb
  go_wp2_with fail
  have HA4 := Aside0.mk (below_alloc HB3.out (.cells #[.int .i64 1, .int .i64 2, .bool true, .slice none 0 0] 52))
  refine (order_walk (some ⟨w3.heap.size, 0, none⟩) 1 [⟨1, 2, true, []⟩] _ (one_got w3 1 2 true) (by decide) (by simp; decide)).mono ?_
  rintro e w4 ⟨rfl, hb⟩
  rw [show ordM (fun _ => 0) [⟨1, 2, true, []⟩] = true by simp [ordM, wrap64]]
  have HB4 := Aside0.mk (below_step HA4.out hb)
  clear hb
  go_wp2_with fail
  have HA5 := Aside0.mk (below_alloc HB4.out (.cells #[.int .i64 1, .int .i64 2, .bool false, .slice none 0 0] 52))
  refine (order_walk (some ⟨w4.heap.size, 0, none⟩) 1 [⟨1, 2, false, []⟩] _ (one_got w4 1 2 false) (by decide) (by simp; decide)).mono ?_
  rintro e w5 ⟨rfl, hb⟩
  have HB5 := Aside0.mk (below_step HA5.out hb)
  clear hb
  rw [show ordM (fun _ => 0) [⟨1, 2, false, []⟩] = false by simp [ordM, wrap64]]
  go_wp2_with fail
  go_ret
  exact ⟨rfl, HB5.out⟩
end Go.Proofs.YtbiofobpafpgfaaDoor.MWo
