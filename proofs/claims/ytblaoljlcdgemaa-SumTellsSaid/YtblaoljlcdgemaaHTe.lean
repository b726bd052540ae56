/- SumTells, step by step. -/
import Derived.Test.YtblaoljlcdgemaaHTb
import Derived.Test.YtblaoljlcdgemaaMSx3
import Derived.Test.YtblaoljlcdgemaaMSx5
set_option linter.unusedVariables false
set_option linter.unusedSimpArgs false
namespace Go.Proofs.Ytblaoljlcdgemaa.HTb
open Go.RowKit Go.Proofs.Ytblaoljlcdgemaa.MS Go.Proofs.YtblaoljlcdgemaaW.PrintWords Go.Proofs.YtblaoljlcdgemaaW.PrintLast Go.Proofs.YtblaoljlcdgemaaW.PrintMore
theorem cell_drawn {W W1 : World} {a : Addr} {v : Value} (hD : Drawn0 W W1) (h : W.cell? a = some v) : W1.cell? a = some v := by
  obtain ⟨m, rfl⟩ := hD
  exact h
set_option maxHeartbeats 2000000 in
set_option maxRecDepth 100000 in
theorem tells_walk (k : Nat) (A0 A1 : Option Addr) (c0 c1 : Nat) (l m : List Int) (i s u : Int) (w : World) (hr0 : Kd.C (Kd.int .u8) w A0 l.length l) (hr1 : Kd.C (Kd.int .u8) w A1 m.length m) (hc0 : l.length ≤ c0) (hc1 : m.length ≤ c1) (hl : l.length ≤ 1500) (hm : m.length ≤ 1500) (i0 : 0 ≤ i) (i1 : i ≤ 255)
    (hA : drumlinelaw2_alive.f k = some true) (hO : drumlineref1_Of.f k l = some s) (hO' : sum_Of.f k l = some s) (hM : sum_More.f k s m = some u) (hM' : drumlineref1_More.f k s m = some u) (hE : drumlineref1_Eight.f k (i * 16777216) = some (stv i)) :
    Calls Try.prog 14 #[.slice A0 l.length c0, .slice A1 m.length c1, .int .u8 i] w fun e w' => e = .returned (.bool true) ∧ Below w.heap.size w w' := by
  have HR0 := Aside0.mk hr0
  have HR1 := Aside0.mk hr1
  have HC0 := Aside0.mk hc0
  have HC1 := Aside0.mk hc1
  have HA := Aside0.mk hA
  have HO := Aside0.mk hO
  have HO' := Aside0.mk hO'
  have HM := Aside0.mk hM
  have HM' := Aside0.mk hM'
  have HE := Aside0.mk hE
  clear hr0 hr1 hc0 hc1 hA hO hO' hM hM' hE
  have hd : decide ((1500 : Int) < (l.length : Int)) = false := decide_eq_false (by omega)
  have hd1 : decide ((1500 : Int) < (m.length : Int)) = false := decide_eq_false (by omega)
  have HZ := hz
  have hz0 : Aside0 ((List.replicate 256 (0 : Int)).length = 256) := ⟨by simp⟩
  generalize List.replicate 256 (0 : Int) = Z at *
  go_enter Try.func14, Try.ntmps14
  go_wp2_with fail
  refine (drumlinelaw2_alive.calls k true _ HA.out).mono ?_
  rintro e w1 ⟨rfl, hb1⟩
  have B1 := Aside0.mk hb1
  clear hb1
  go_wp2_with fail
  with_reducible refine (drumlineref1_Of.calls k _ _ l s _ (Kd.C_below HR0.out B1.out) HC0.out HO.out).mono ?_
  rintro e w2 ⟨rfl, hD2⟩
  have B2 := Aside0.mk (below_step B1.out hD2.below)
  clear hD2
  go_wp2_with fail
  refine (table_walk _).mono ?_
  rintro e w3 ⟨T, rfl, hT, hTv, hb3⟩
  have B3 := Aside0.mk (below_step B2.out hb3)
  have HT := Aside0.mk hT
  have HV := Aside0.mk (hTv i.toNat (by omega))
  clear hb3 hT hTv
  go_wp2_with (first | (refine wpList_store_row rfl 47 (.tmp 8) (.tmp 24) rfl w3.heap.size (nums .u32 T).toArray rfl rfl 47 (nums .u32 Z).toArray (heap_alloc_new _ _) (by rw [i47, nums_size, HT.out]) (by rw [nums_size, nums_size, HT.out, hz0.out]) (nums_one T) ?_))
  have B4 := Aside0.mk (below_row (below_alloc B3.out (Obj.cells (nums .u32 Z).toArray 47)) B3.out.size (g := w3.heap.size) (nums .u32 T).toArray)
  have C4 : ((w3.alloc (Obj.cells (nums .u32 Z).toArray 47)).setRow w3.heap.size (nums .u32 T).toArray).cell? ⟨w3.heap.size, i.toNat, none⟩ = some (.int .u32 (stv i)) := by
    rw [blk_cell (set_row (heap_alloc_new _ _) _) i.toNat]
    have h1 := HT.out
    have h2 := HV.out
    have h3 : i.toNat < T.length := by omega
    rw [List.getD_eq_getElem?_getD, List.getElem?_eq_getElem h3, show ((i.toNat : Nat) : Int) = i by omega] at h2
    simp only [Option.getD_some] at h2
    simp [nums, h3, h2]
  generalize (w3.alloc (Obj.cells (nums .u32 Z).toArray 47)).setRow w3.heap.size (nums .u32 T).toArray = w4 at *
  generalize hgt : w3.heap.size = gt at *
  clear HZ hz0 HT HV
  simp only [Act.put]
  have B5 := Aside0.mk (below_drew B4.out)
  have C5 : w4.drew.cell? ⟨gt, i.toNat, none⟩ = some (.int .u32 (stv i)) := C4
  clear C4
  have p0 := eq_true i0
  have p1 : (i < 256) = True := eq_true (by omega)
  have hwi : IntKind.u32.wrap i = i := by simp [IntKind.wrap, IntKind.signed, IntKind.bits]; omega
  have hwm : IntKind.u32.wrap (i * 16777216) = i * 16777216 := by simp [IntKind.wrap, IntKind.signed, IntKind.bits]; omega
  have hss : (s == s) = true := by simp
  have huu : (u == u) = true := by simp
  have hvv : (stv i == stv i) = true := by simp
  -- REGION 5
  refine start_ (n := 24) (S := fun w' => w'.cell? ⟨gt, i.toNat, none⟩ = some (.int .u32 (stv i))) (ds := []) #[false, false, false, false, false, false, false, false, false, false, false, false, false, false, false, false, false, false, false, false, false, false, false, false] (by kernel_rfl) rfl rfl (C5) (fun hHeld => ?_)
  generalize w4.drew = w5 at B5 C5 hHeld ⊢
  refine pure_ (i := 0) (N := some 25) (v := ?_) (a' := ?_) #[true, false, false, false, false, false, false, false, false, false, false, false, false, false, false, false, false, false, false, false, false, false, false, false] rfl rfl (by kernel_rfl) (fun _ _ _ h => h) (Or.inl ⟨by rfl, ?_⟩) ?_ ?_
  rotate_left
  · intro w'
    go_simp
    with_reducible rfl
  rotate_left
  · simp only [Act.put, List.setIfInBounds_toArray, List.set_cons_zero, List.set_cons_succ, i64_w, i32_w]
    rfl
  refine pure_ (i := 2) (N := some 27) (v := ?_) (a' := ?_) #[true, false, true, false, false, false, false, false, false, false, false, false, false, false, false, false, false, false, false, false, false, false, false, false] rfl rfl (by kernel_rfl) (fun _ _ _ h => h) (Or.inl ⟨by rfl, ?_⟩) ?_ ?_
  rotate_left
  · intro w'
    go_simp
    with_reducible rfl
  rotate_left
  · simp only [Act.put, List.setIfInBounds_toArray, List.set_cons_zero, List.set_cons_succ, i64_w, i32_w]
    rfl
  refine one_ (i := 1) (N := some 26) #[true, true, true, false, false, false, false, false, false, false, false, false, false, false, false, false, false, false, false, false, false, false, false, false] rfl rfl (by kernel_rfl) (by decide) (fun K hK => ?_)
  refine goes_ Try.func33 (by kernel_rfl) rfl #[.slice A0 l.length c0] (by rfl) rfl rfl (by simp only [List.map_toArray, List.map_cons, List.map_nil]; rfl) ?_
  with_reducible refine (sum_Of.calls k _ _ l s _ (Kd.C_below HR0.out B5.out) HC0.out HO'.out).mono ?_
  rintro e w6 ⟨rfl, hD6⟩
  have C6 := cell_drawn hD6 C5
  have B6 := Aside0.mk (below_step B5.out hD6.below)
  clear hD6
  refine ⟨_, rfl, ?_⟩
  refine hK.out _ _ (C6) (fun hHeld => ?_)
  clear hK K
  refine norm_ (a' := ?_) ?_ ?_
  rotate_left
  · show Act.put _ (some 26) _ = _
    simp only [Act.put, List.setIfInBounds_toArray, List.set_cons_zero, List.set_cons_succ, i64_w, i32_w]
    rfl
  refine pure_ (i := 3) (N := some 28) (v := ?_) (a' := ?_) #[true, true, true, true, false, false, false, false, false, false, false, false, false, false, false, false, false, false, false, false, false, false, false, false] rfl rfl (by kernel_rfl) (fun _ _ _ h => h) (Or.inl ⟨by rfl, ?_⟩) ?_ ?_
  rotate_left
  · intro w'
    go_simp
    with_reducible rfl
  rotate_left
  · simp only [Act.put, List.setIfInBounds_toArray, List.set_cons_zero, List.set_cons_succ, i64_w, i32_w]
    rfl
  refine pure_ (i := 4) (N := some 29) (v := ?_) (a' := ?_) #[true, true, true, true, true, false, false, false, false, false, false, false, false, false, false, false, false, false, false, false, false, false, false, false] rfl rfl (by kernel_rfl) (fun _ _ _ h => h) (Or.inl ⟨by rfl, ?_⟩) ?_ ?_
  rotate_left
  · intro w'
    go_simp
    with_reducible rfl
  rotate_left
  · simp only [Act.put, List.setIfInBounds_toArray, List.set_cons_zero, List.set_cons_succ, i64_w, i32_w]
    rfl
  refine pure_ (i := 5) (N := some 30) (v := ?_) (a' := ?_) #[true, true, true, true, true, true, false, false, false, false, false, false, false, false, false, false, false, false, false, false, false, false, false, false] rfl rfl (by kernel_rfl) (fun _ _ _ h => h) (Or.inl ⟨by rfl, ?_⟩) ?_ ?_
  rotate_left
  · intro w'
    go_simp
    with_reducible rfl
  rotate_left
  · simp only [Act.put, List.setIfInBounds_toArray, List.set_cons_zero, List.set_cons_succ, i64_w, i32_w]
    rfl
  refine pure_ (i := 6) (N := some 31) (v := ?_) (a' := ?_) #[true, true, true, true, true, true, true, false, false, false, false, false, false, false, false, false, false, false, false, false, false, false, false, false] rfl rfl (by kernel_rfl) (fun _ _ _ h => h) (Or.inl ⟨by rfl, ?_⟩) ?_ ?_
  rotate_left
  · intro w'
    go_simp
    with_reducible rfl
  rotate_left
  · simp only [Act.put, List.setIfInBounds_toArray, List.set_cons_zero, List.set_cons_succ, i64_w, i32_w]
    rfl
  refine pure_ (i := 8) (N := some 33) (v := ?_) (a' := ?_) #[true, true, true, true, true, true, true, false, true, false, false, false, false, false, false, false, false, false, false, false, false, false, false, false] rfl rfl (by kernel_rfl) (fun _ _ _ h => h) (Or.inl ⟨by rfl, ?_⟩) ?_ ?_
  rotate_left
  · intro w'
    go_simp
    with_reducible rfl
  rotate_left
  · simp only [Act.put, List.setIfInBounds_toArray, List.set_cons_zero, List.set_cons_succ, i64_w, i32_w]
    rfl
  refine pure_ (i := 9) (N := some 34) (v := ?_) (a' := ?_) #[true, true, true, true, true, true, true, false, true, true, false, false, false, false, false, false, false, false, false, false, false, false, false, false] rfl rfl (by kernel_rfl) (fun _ _ _ h => h) (Or.inl ⟨by rfl, ?_⟩) ?_ ?_
  rotate_left
  · intro w'
    go_simp
    with_reducible rfl
  rotate_left
  · simp only [Act.put, List.setIfInBounds_toArray, List.set_cons_zero, List.set_cons_succ, i64_w, i32_w]
    rfl
  refine one_ (i := 7) (N := some 32) #[true, true, true, true, true, true, true, true, true, true, false, false, false, false, false, false, false, false, false, false, false, false, false, false] rfl rfl (by kernel_rfl) (by decide) (fun K hK => ?_)
  refine goes_ Try.func27 (by kernel_rfl) rfl #[.int .u32 s, .slice A1 m.length c1] (by rfl) rfl rfl (by simp only [List.map_toArray, List.map_cons, List.map_nil]; rfl) ?_
  with_reducible refine (sum_More.calls k s _ _ m u _ (Kd.C_below HR1.out B6.out) HC1.out HM.out).mono ?_
  rintro e w7 ⟨rfl, hD7⟩
  have C7 := cell_drawn hD7 C6
  have B7 := Aside0.mk (below_step B6.out hD7.below)
  clear hD7
  refine ⟨_, rfl, ?_⟩
  refine hK.out _ _ (C7) (fun hHeld => ?_)
  clear hK K
  refine norm_ (a' := ?_) ?_ ?_
  rotate_left
  · show Act.put _ (some 32) _ = _
    simp only [Act.put, List.setIfInBounds_toArray, List.set_cons_zero, List.set_cons_succ, i64_w, i32_w]
    rfl
  refine one_ (i := 10) (N := some 35) #[true, true, true, true, true, true, true, true, true, true, true, false, false, false, false, false, false, false, false, false, false, false, false, false] rfl rfl (by kernel_rfl) (by decide) (fun K hK => ?_)
  refine goes_ Try.func28 (by kernel_rfl) rfl #[.int .u32 s, .slice A1 m.length c1] (by rfl) rfl rfl (by simp only [List.map_toArray, List.map_cons, List.map_nil]; rfl) ?_
  with_reducible refine (drumlineref1_More.calls k s _ _ m u _ (Kd.C_below HR1.out B7.out) HC1.out HM'.out).mono ?_
  rintro e w8 ⟨rfl, hD8⟩
  have C8 := cell_drawn hD8 C7
  have B8 := Aside0.mk (below_step B7.out hD8.below)
  clear hD8
  refine ⟨_, rfl, ?_⟩
  refine hK.out _ _ (C8) (fun hHeld => ?_)
  clear hK K
  refine norm_ (a' := ?_) ?_ ?_
  rotate_left
  · show Act.put _ (some 35) _ = _
    simp only [Act.put, List.setIfInBounds_toArray, List.set_cons_zero, List.set_cons_succ, i64_w, i32_w]
    rfl
  refine pure_ (i := 11) (N := some 36) (v := ?_) (a' := ?_) #[true, true, true, true, true, true, true, true, true, true, true, true, false, false, false, false, false, false, false, false, false, false, false, false] rfl rfl (by kernel_rfl) (fun _ _ _ h => h) (Or.inl ⟨by rfl, ?_⟩) ?_ ?_
  rotate_left
  · intro w'
    go_simp
    with_reducible rfl
  rotate_left
  · simp only [Act.put, List.setIfInBounds_toArray, List.set_cons_zero, List.set_cons_succ, i64_w, i32_w]
    rfl
  refine pure_ (i := 12) (N := some 37) (v := ?_) (a' := ?_) #[true, true, true, true, true, true, true, true, true, true, true, true, true, false, false, false, false, false, false, false, false, false, false, false] rfl rfl (by kernel_rfl) (fun _ _ _ h => h) (Or.inl ⟨by rfl, ?_⟩) ?_ ?_
  rotate_left
  · intro w'
    go_simp
    with_reducible rfl
  rotate_left
  · simp only [Act.put, List.setIfInBounds_toArray, List.set_cons_zero, List.set_cons_succ, i64_w, i32_w]
    rfl
  refine pure_ (i := 13) (N := some 38) (v := ?_) (a' := ?_) #[true, true, true, true, true, true, true, true, true, true, true, true, true, true, false, false, false, false, false, false, false, false, false, false] rfl rfl (by kernel_rfl) (fun _ _ _ h => h) (Or.inl ⟨by rfl, ?_⟩) ?_ ?_
  rotate_left
  · intro w'
    go_simp
    with_reducible rfl
  rotate_left
  · simp only [Act.put, List.setIfInBounds_toArray, List.set_cons_zero, List.set_cons_succ, i64_w, i32_w]
    rfl
  refine pure_ (i := 14) (N := some 39) (v := ?_) (a' := ?_) #[true, true, true, true, true, true, true, true, true, true, true, true, true, true, true, false, false, false, false, false, false, false, false, false] rfl rfl (by kernel_rfl) (fun _ _ _ h => h) (Or.inl ⟨by rfl, ?_⟩) ?_ ?_
  rotate_left
  · intro w'
    go_simp
    with_reducible rfl
  rotate_left
  · simp only [Act.put, List.setIfInBounds_toArray, List.set_cons_zero, List.set_cons_succ, i64_w, i32_w]
    rfl
  refine pure_ (i := 15) (N := some 40) (v := ?_) (a' := ?_) #[true, true, true, true, true, true, true, true, true, true, true, true, true, true, true, true, false, false, false, false, false, false, false, false] rfl rfl (by kernel_rfl) (fun _ _ _ h => h) (Or.inl ⟨by rfl, ?_⟩) ?_ ?_
  rotate_left
  · intro w'
    go_simp
    with_reducible rfl
  rotate_left
  · simp only [Act.put, List.setIfInBounds_toArray, List.set_cons_zero, List.set_cons_succ, i64_w, i32_w]
    rfl
  refine pure_ (i := 17) (N := some 42) (v := ?_) (a' := ?_) #[true, true, true, true, true, true, true, true, true, true, true, true, true, true, true, true, false, true, false, false, false, false, false, false] rfl rfl (by kernel_rfl) (fun _ _ _ h => h) (Or.inl ⟨by rfl, ?_⟩) ?_ ?_
  rotate_left
  · intro w'
    go_simp
    with_reducible rfl
  rotate_left
  · simp only [Act.put, List.setIfInBounds_toArray, List.set_cons_zero, List.set_cons_succ, i64_w, i32_w]
    rfl
  refine pure_ (i := 18) (N := some 43) (v := ?_) (a' := ?_) #[true, true, true, true, true, true, true, true, true, true, true, true, true, true, true, true, false, true, true, false, false, false, false, false] rfl rfl (by kernel_rfl) (fun _ _ _ h => h) (Or.inl ⟨by rfl, ?_⟩) ?_ ?_
  rotate_left
  · intro w'
    go_simp
    with_reducible rfl
  rotate_left
  · simp only [Act.put, List.setIfInBounds_toArray, List.set_cons_zero, List.set_cons_succ, i64_w, i32_w]
    rfl
  refine pure_ (i := 19) (N := some 44) (v := ?_) (a' := ?_) #[true, true, true, true, true, true, true, true, true, true, true, true, true, true, true, true, false, true, true, true, false, false, false, false] rfl rfl (by kernel_rfl) (fun _ _ _ h => h) (Or.inl ⟨by rfl, ?_⟩) ?_ ?_
  rotate_left
  · intro w'
    go_simp
    with_reducible rfl
  rotate_left
  · simp only [Act.put, List.setIfInBounds_toArray, List.set_cons_zero, List.set_cons_succ, i64_w, i32_w]
    rfl
  refine take_ (i := 16) (N := some 41) (v := ?_) (a' := ?_) #[true, true, true, true, true, true, true, true, true, true, true, true, true, true, true, true, true, true, true, true, false, false, false, false] rfl rfl (by kernel_rfl) (fun _ _ _ h => h) (Or.inl ⟨by rfl, ?_⟩) hHeld ?_ ?_
  rotate_left
  · intro w' s0
    go_simp
    with_reducible rfl
  rotate_left
  · simp only [Act.put, List.setIfInBounds_toArray, List.set_cons_zero, List.set_cons_succ, i64_w, i32_w]
    rfl
  refine one_ (i := 20) (N := some 45) #[true, true, true, true, true, true, true, true, true, true, true, true, true, true, true, true, true, true, true, true, true, false, false, false] rfl rfl (by kernel_rfl) (by decide) (fun K hK => ?_)
  refine goes_ Try.func37 (by kernel_rfl) rfl #[.int .u32 (i * 16777216)] (by rfl) rfl rfl (by simp only [List.map_toArray, List.map_cons, List.map_nil]; rfl) ?_
  with_reducible refine (drumlineref1_Eight.calls k _ (stv i) _ HE.out).mono ?_
  rintro e w9 ⟨rfl, hD9⟩
  have C9 := cell_drawn hD9 C8
  have B9 := Aside0.mk (below_step B8.out hD9.below)
  clear hD9
  refine ⟨_, rfl, ?_⟩
  refine hK.out _ _ (C9) (fun hHeld => ?_)
  clear hK K
  refine norm_ (a' := ?_) ?_ ?_
  rotate_left
  · show Act.put _ (some 45) _ = _
    simp only [Act.put, List.setIfInBounds_toArray, List.set_cons_zero, List.set_cons_succ, i64_w, i32_w]
    rfl
  refine pure_ (i := 21) (N := some 46) (v := ?_) (a' := ?_) #[true, true, true, true, true, true, true, true, true, true, true, true, true, true, true, true, true, true, true, true, true, true, false, false] rfl rfl (by kernel_rfl) (fun _ _ _ h => h) (Or.inl ⟨by rfl, ?_⟩) ?_ ?_
  rotate_left
  · intro w'
    go_simp
    with_reducible rfl
  rotate_left
  · simp only [Act.put, List.setIfInBounds_toArray, List.set_cons_zero, List.set_cons_succ, i64_w, i32_w]
    rfl
  refine pure_ (i := 22) (N := some 47) (v := ?_) (a' := ?_) #[true, true, true, true, true, true, true, true, true, true, true, true, true, true, true, true, true, true, true, true, true, true, true, false] rfl rfl (by kernel_rfl) (fun _ _ _ h => h) (Or.inl ⟨by rfl, ?_⟩) ?_ ?_
  rotate_left
  · intro w'
    go_simp
    with_reducible rfl
  rotate_left
  · simp only [Act.put, List.setIfInBounds_toArray, List.set_cons_zero, List.set_cons_succ, i64_w, i32_w]
    rfl
  refine pure_ (i := 23) (N := some 6) (v := ?_) (a' := ?_) #[true, true, true, true, true, true, true, true, true, true, true, true, true, true, true, true, true, true, true, true, true, true, true, true] rfl rfl (by kernel_rfl) (fun _ _ _ h => h) (Or.inl ⟨by rfl, ?_⟩) ?_ ?_
  rotate_left
  · intro w'
    go_simp
    with_reducible rfl
  rotate_left
  · simp only [Act.put, List.setIfInBounds_toArray, List.set_cons_zero, List.set_cons_succ, i64_w, i32_w]
    rfl
  refine done_ (by kernel_rfl) ?_
  -- END 5
  go_wp2
  go_ret
  exact ⟨rfl, B9.out⟩
end Go.Proofs.Ytblaoljlcdgemaa.HTb
