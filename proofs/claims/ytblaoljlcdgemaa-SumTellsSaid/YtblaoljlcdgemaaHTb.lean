/- What Table hands back: at each byte what eight steps make of it. -/
import Derived.Test.YtblaoljlcdgemaaMSx1
import Derived.Test.YtblaoljlcdgemaaPuSum
import Derived.Deep.WholeRow
set_option linter.unusedVariables false
set_option linter.unusedSimpArgs false
namespace Go.Proofs.Ytblaoljlcdgemaa.HTb
open Go.RowKit Go.Proofs.Ytblaoljlcdgemaa.MS Go.Proofs.YtblaoljlcdgemaaW.PrintWords Go.Proofs.YtblaoljlcdgemaaW.PrintLast Go.Proofs.YtblaoljlcdgemaaW.PrintMore
theorem u47 : Try.prog.underlying 47 = some (.array 256 33) := by kernel_rfl
theorem i47 : (Try.prog.info? 47).map (·.size) = some 256 := by kernel_rfl
theorem z47 : (Try.prog.info? 47).map (·.zero) = some (some (.agg (nums .u32 (List.replicate 256 0)).toArray)) := by kernel_rfl
theorem hz (W : World) : (zeroValue 47).run Try.prog W = .ok (.agg (nums .u32 (List.replicate 256 0)).toArray) W := by
  obtain ⟨i, hi, hh⟩ := Option.map_eq_some_iff.1 z47
  generalize (nums .u32 (List.replicate 256 0)).toArray = Z at *
  simp [zeroValue, typeInfo, hi, hh, Sem.run_bind, Result.andThen]
/-- What eight steps make of a byte. -/
def stv (i : Int) : Int := Pure.V (Sum.st8 (Sum.top (Pure.byt i)))
theorem step_at {i : Int} (h0 : 0 ≤ i) (h1 : i ≤ 255) : ∃ k, sum_step.f k (i * 16777216) = some (stv i) := by
  rw [show i * 16777216 = ((i % 4294967296) * 16777216) % 4294967296 by omega, Pure.top_V h0 h1]
  exact (Pure.step_evl _).some_
theorem nums_set (xs : List Int) (j : Nat) (v : Int) : ((nums .u32 xs).toArray).setIfInBounds j (.int .u32 v) = (nums .u32 (xs.set j v)).toArray := by
  simp [nums, List.map_set]
theorem nums_size (xs : List Int) : (nums .u32 xs).toArray.size = xs.length := by simp [nums]
theorem nums_one (xs : List Int) : (nums .u32 xs).toArray.all (·.oneCell') = true := by
  rw [Array.all_eq_true]; intro i hi; simp [nums, Value.oneCell']
theorem set_row {w : World} {g : Nat} {t : TypeId} {cs : Array Value} (h : w.heap[g]? = some (.cells cs t (0, 0))) (c : Array Value) : (w.setRow g c).heap[g]? = some (.cells c t (0, 0)) := by
  simp [World.setRow, Array.getElem?_modify, h]
theorem below_row {w0 w : World} {B g : Nat} (h : Below B w0 w) (hg : B ≤ g) (c : Array Value) : Below B w0 (w.setRow g c) := by
  refine ⟨h.os, h.tape, h.output, ?_, fun k hk => ?_⟩
  · have := h.size; simpa [World.setRow] using this
  · rw [← h.block k hk]
    simp only [World.setRow, Array.getElem?_modify]
    rw [if_neg (by omega)]
set_option maxHeartbeats 400000 in
set_option maxRecDepth 100000 in
theorem table_walk (w : World) :
    Calls Try.prog 36 #[] w fun e w' => ∃ T : List Int, e = .returned (.agg (nums .u32 T).toArray) ∧ T.length = 256 ∧ (∀ j : Nat, j < 256 → T.getD j 0 = stv j) ∧ Below w.heap.size w w' := by
  have HZ := hz
  have hz0 : Aside0 ((List.replicate 256 (0 : Int)).length = 256) := ⟨by simp⟩
  generalize List.replicate 256 (0 : Int) = Z at *
  go_enter Try.func36, Try.ntmps36
  go_wp2_with fail
  clear HZ
  go_loopg [3] 257 (fun kq v3 w' => ∃ (i : Int) (xs : List Int), v3 = .int .i64 i ∧ Aside0 (kq + i = 257 ∧ 0 ≤ i) ∧ Aside0 (xs.length = 256 ∧ ∀ j : Nat, (j : Int) < i → xs.getD j 0 = stv j) ∧ Aside0 (w'.heap[w.heap.size]? = some (.cells (nums .u32 Z).toArray 47 (0, 0))) ∧ Aside0 (w'.heap[w.heap.size + 1]? = some (.cells (nums .u32 xs).toArray 47 (0, 0))) ∧ Aside0 (Below w.heap.size w w'))
  case atStart => exact ⟨0, Z, rfl, ⟨by omega⟩, ⟨hz0.out, fun j hj => by omega⟩, ⟨heap_alloc2_old _ _ _⟩, ⟨heap_alloc2_new _ _ _⟩, ⟨below_alloc (below_alloc (Below.refl _ _) _) _⟩⟩
  case round =>
    obtain ⟨i, xs, rfl, HK, HX, HG0, HG1, HB⟩ := hrel
    by_cases hi : i < 256
    · have h0 := HK.out.2
      have c1b0 : decide (i < (256 : Int)) = true := decide_eq_true hi
      obtain ⟨k, hk⟩ := step_at h0 (by omega)
      have HSt := Aside0.mk hk
      clear hk
      cases gk with
      | zero => exact absurd HK.out (by omega)
      | succ k1 =>
      go_wp2_with fail
      with_reducible refine (sum_step.calls k _ (stv i) _ HSt.out).mono ?_
      rintro e w2 ⟨rfl, ⟨nd, rfl⟩⟩
      have HG0' : Aside0 ((wr.drewN nd).heap[w.heap.size]? = some (.cells (nums .u32 Z).toArray 47 (0, 0))) := ⟨HG0.out⟩
      have HG1' : Aside0 ((wr.drewN nd).heap[w.heap.size + 1]? = some (.cells (nums .u32 xs).toArray 47 (0, 0))) := ⟨HG1.out⟩
      have HB' := Aside0.mk (pw_below_drewN HB.out nd)
      generalize wr.drewN nd = W at *
      have hsz := HX.out.1
      have hcell : W.cell? ⟨w.heap.size + 1, i.toNat, none⟩ = some (.int .u32 (xs.getD i.toNat 0)) := by
        rw [blk_cell HG1'.out i.toNat]
        have : i.toNat < xs.length := by omega
        simp [nums, this]
      have hfr := blk_frozen HG1'.out i.toNat
      have p0 := eq_true h0
      have p1 := eq_true hi
      have hw1 : wrap64 (i + 1) = i + 1 := by unfold wrap64; omega
      go_wp2_with fail
      go_roundg k1
      case measure => have := HK.out; omega
      case rel =>
        refine ⟨i + 1, xs.set i.toNat (stv i), rfl, ⟨by have := HK.out; omega⟩, ⟨by rw [List.length_set]; exact hsz, fun j hj => ?_⟩, ⟨?_⟩, ⟨?_⟩, ⟨?_⟩⟩
        · by_cases hj' : j = i.toNat
          · subst hj'
            rw [List.getD_eq_getElem?_getD, List.getElem?_set_self (by omega)]
            simp only [Option.getD_some]
            rw [show ((i.toNat : Nat) : Int) = i by omega]
          · rw [List.getD_eq_getElem?_getD, List.getElem?_set_ne (by omega), ← List.getD_eq_getElem?_getD]
            exact HX.out.2 j (by omega)
        · rw [Below.heap_setCell _ _ _ _ (by simp)]; exact HG0'.out
        · rw [← nums_set]; exact blk_set HG1'.out _ _
        · exact HB'.out.setCell (by simp) _
    · have c1b0 : decide (i < (256 : Int)) = false := decide_eq_false hi
      have hsz := HX.out.1
      go_wp2_with (first
        | (refine wpList_load_row rfl 47 (.tmp 1) rfl (w.heap.size + 1) rfl 47 (nums .u32 xs).toArray (0, 0) (.array 256 33) HG1.out u47 rfl (by rw [i47, nums_size, hsz]) ?_)
        | (refine wpList_store_row rfl 47 (.tmp 0) (.tmp 13) rfl w.heap.size (nums .u32 xs).toArray rfl rfl 47 (nums .u32 Z).toArray HG0.out (by rw [i47, nums_size, hsz]) (by rw [nums_size, nums_size, hsz, hz0.out]) (nums_one xs) ?_))
      refine bodyPost_ret (results_cell_row rfl _ _ w.heap.size 47 (nums .u32 xs).toArray (0, 0) (.array 256 33) rfl ?_ u47 rfl (by rw [i47, nums_size, hsz])) rfl ⟨xs, rfl, hsz, fun j hj => ?_, ?_⟩
      · exact set_row HG0.out _
      · have := HX.out.2 j (by omega)
        simpa using this
      · exact below_row HB.out (Nat.le_refl _) _
end Go.Proofs.Ytblaoljlcdgemaa.HTb
