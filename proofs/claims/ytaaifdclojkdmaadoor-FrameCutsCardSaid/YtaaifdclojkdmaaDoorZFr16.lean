/- Texts of this claim, laid together by a program (wip/e/merge2.py): HNu, HAs, MFrx65, MFrx66, MFrx67, MFrx68, MFrx69, Sum, PuSum. -/
import Derived.Test.YtaaifdclojkdmaaDoorZFr10
import Derived.Test.YtaaifdclojkdmaaDoorZFr2
import Derived.Test.YtaaifdclojkdmaaDoorZFr14
import Derived.Test.YtaaifdclojkdmaaDoorZFr13
import Derived.Test.YtaaifdclojkdmaaDoorZFr11
set_option linter.unusedVariables false
set_option linter.unusedSimpArgs false
set_option maxRecDepth 100000
namespace Go.Proofs.YtaaifdclojkdmaaDoor.MFr
open Go.RowKit Go.Proofs.YtaaifdclojkdmaaDoorW.PrintWords Go.Proofs.YtaaifdclojkdmaaDoorW.PrintLast Go.Proofs.YtaaifdclojkdmaaDoorW.PrintMore
set_option maxHeartbeats 4000000 in
theorem number0 (w : World) :
  Calls Tryd.prog 40 #[.nilIface] w fun ev w' => ev = .returned (.int .i64 0) ∧ Below w.heap.size w w' := by
 go_enter Tryd.func40, Tryd.ntmps40
 go_wp2_with fail
 have HB := Aside0.mk (below_alloc (Below.refl w.heap.size w) (Obj.cells #[.int .i64 2, .int .i64 4, .int .i64 5, .int .i64 6, .int .i64 3] 28))
 have HA : Aside0 ((w.alloc (Obj.cells #[.int .i64 2, .int .i64 4, .int .i64 5, .int .i64 6, .int .i64 3] 28)).heap[w.heap.size]? = some (Obj.cells #[.int .i64 2, .int .i64 4, .int .i64 5, .int .i64 6, .int .i64 3] 28)) := ⟨heap_alloc_new _ _⟩
 generalize w.alloc (Obj.cells #[.int .i64 2, .int .i64 4, .int .i64 5, .int .i64 6, .int .i64 3] 28) = wa at *
 obtain ⟨b, hb⟩ : ∃ b, b = w.heap.size := ⟨_, rfl⟩
 rw [← hb]
 rw [← hb] at HA
 have HBX := Aside0.mk hb
 clear hb
 obtain ⟨c0, c1, c2, c3, c4⟩ := cellsK5 HA.out
 refine wp_loop_rounds 6 ?_
 rw [rounds_succ]
 go_wp2_with fail
 refine (is_nil 2 _).mono ?_
 rintro e w1 ⟨rfl, rfl⟩
 go_wp2_with fail
 rw [rounds_succ]
 go_wp2_with fail
 refine (is_nil 4 _).mono ?_
 rintro e w1 ⟨rfl, rfl⟩
 go_wp2_with fail
 rw [rounds_succ]
 go_wp2_with fail
 refine (is_nil 5 _).mono ?_
 rintro e w1 ⟨rfl, rfl⟩
 go_wp2_with fail
 rw [rounds_succ]
 go_wp2_with fail
 refine (is_nil 6 _).mono ?_
 rintro e w1 ⟨rfl, rfl⟩
 go_wp2_with fail
 rw [rounds_succ]
 go_wp2_with fail
 refine (is_nil 3 _).mono ?_
 rintro e w1 ⟨rfl, rfl⟩
 go_wp2_with fail
 rw [rounds_succ]
 go_wp2_with fail
 go_ret
 exact ⟨rfl, HB.out⟩
set_option maxHeartbeats 4000000 in
theorem number2 (q : Nat) (ea : Int) (w : World) (h : w.heap[q]? = some (.cells #[.int .i64 ea, .iface 78 (.int .i64 2)] 74 (0, 0))) :
  Calls Tryd.prog 40 #[.iface 70 (.pointer (some ⟨q, 0, none⟩))] w fun ev w' => ev = .returned (.int .i64 2) ∧ Below w.heap.size w w' := by
 have HH := Aside0.mk h
 clear h
 go_enter Tryd.func40, Tryd.ntmps40
 go_wp2_with fail
 have HB := Aside0.mk (below_alloc (Below.refl w.heap.size w) (Obj.cells #[.int .i64 2, .int .i64 4, .int .i64 5, .int .i64 6, .int .i64 3] 28))
 have HA : Aside0 ((w.alloc (Obj.cells #[.int .i64 2, .int .i64 4, .int .i64 5, .int .i64 6, .int .i64 3] 28)).heap[w.heap.size]? = some (Obj.cells #[.int .i64 2, .int .i64 4, .int .i64 5, .int .i64 6, .int .i64 3] 28)) := ⟨heap_alloc_new _ _⟩
 have HQ := Aside0.mk ((HB.out.block q (blk_lt HH.out)).trans HH.out)
 generalize w.alloc (Obj.cells #[.int .i64 2, .int .i64 4, .int .i64 5, .int .i64 6, .int .i64 3] 28) = wa at *
 obtain ⟨b, hb⟩ : ∃ b, b = w.heap.size := ⟨_, rfl⟩
 rw [← hb]
 rw [← hb] at HA
 have HBX := Aside0.mk hb
 clear hb
 obtain ⟨c0, c1, c2, c3, c4⟩ := cellsK5 HA.out
 refine wp_loop_rounds 6 ?_
 rw [rounds_succ]
 go_wp2_with fail
 have I_ := is_walk q 2 ea 2 _ HQ.out
 rw [show ((2 : Int) == 2) = true from rfl] at I_
 refine I_.mono ?_
 rintro e w1 ⟨rfl, rfl⟩
 clear I_
 go_wp2_with fail
 go_ret
 exact ⟨rfl, HB.out⟩
set_option maxHeartbeats 4000000 in
theorem number4 (q : Nat) (ea : Int) (w : World) (h : w.heap[q]? = some (.cells #[.int .i64 ea, .iface 78 (.int .i64 4)] 74 (0, 0))) :
  Calls Tryd.prog 40 #[.iface 70 (.pointer (some ⟨q, 0, none⟩))] w fun ev w' => ev = .returned (.int .i64 4) ∧ Below w.heap.size w w' := by
 have HH := Aside0.mk h
 clear h
 go_enter Tryd.func40, Tryd.ntmps40
 go_wp2_with fail
 have HB := Aside0.mk (below_alloc (Below.refl w.heap.size w) (Obj.cells #[.int .i64 2, .int .i64 4, .int .i64 5, .int .i64 6, .int .i64 3] 28))
 have HA : Aside0 ((w.alloc (Obj.cells #[.int .i64 2, .int .i64 4, .int .i64 5, .int .i64 6, .int .i64 3] 28)).heap[w.heap.size]? = some (Obj.cells #[.int .i64 2, .int .i64 4, .int .i64 5, .int .i64 6, .int .i64 3] 28)) := ⟨heap_alloc_new _ _⟩
 have HQ := Aside0.mk ((HB.out.block q (blk_lt HH.out)).trans HH.out)
 generalize w.alloc (Obj.cells #[.int .i64 2, .int .i64 4, .int .i64 5, .int .i64 6, .int .i64 3] 28) = wa at *
 obtain ⟨b, hb⟩ : ∃ b, b = w.heap.size := ⟨_, rfl⟩
 rw [← hb]
 rw [← hb] at HA
 have HBX := Aside0.mk hb
 clear hb
 obtain ⟨c0, c1, c2, c3, c4⟩ := cellsK5 HA.out
 refine wp_loop_rounds 6 ?_
 rw [rounds_succ]
 go_wp2_with fail
 have I_ := is_walk q 4 ea 2 _ HQ.out
 rw [show ((4 : Int) == 2) = false from rfl] at I_
 refine I_.mono ?_
 rintro e w1 ⟨rfl, rfl⟩
 clear I_
 go_wp2_with fail
 rw [rounds_succ]
 go_wp2_with fail
 have I_ := is_walk q 4 ea 4 _ HQ.out
 rw [show ((4 : Int) == 4) = true from rfl] at I_
 refine I_.mono ?_
 rintro e w1 ⟨rfl, rfl⟩
 clear I_
 go_wp2_with fail
 go_ret
 exact ⟨rfl, HB.out⟩
set_option maxHeartbeats 4000000 in
theorem number5 (q : Nat) (ea : Int) (w : World) (h : w.heap[q]? = some (.cells #[.int .i64 ea, .iface 78 (.int .i64 5)] 74 (0, 0))) :
  Calls Tryd.prog 40 #[.iface 70 (.pointer (some ⟨q, 0, none⟩))] w fun ev w' => ev = .returned (.int .i64 5) ∧ Below w.heap.size w w' := by
 have HH := Aside0.mk h
 clear h
 go_enter Tryd.func40, Tryd.ntmps40
 go_wp2_with fail
 have HB := Aside0.mk (below_alloc (Below.refl w.heap.size w) (Obj.cells #[.int .i64 2, .int .i64 4, .int .i64 5, .int .i64 6, .int .i64 3] 28))
 have HA : Aside0 ((w.alloc (Obj.cells #[.int .i64 2, .int .i64 4, .int .i64 5, .int .i64 6, .int .i64 3] 28)).heap[w.heap.size]? = some (Obj.cells #[.int .i64 2, .int .i64 4, .int .i64 5, .int .i64 6, .int .i64 3] 28)) := ⟨heap_alloc_new _ _⟩
 have HQ := Aside0.mk ((HB.out.block q (blk_lt HH.out)).trans HH.out)
 generalize w.alloc (Obj.cells #[.int .i64 2, .int .i64 4, .int .i64 5, .int .i64 6, .int .i64 3] 28) = wa at *
 obtain ⟨b, hb⟩ : ∃ b, b = w.heap.size := ⟨_, rfl⟩
 rw [← hb]
 rw [← hb] at HA
 have HBX := Aside0.mk hb
 clear hb
 obtain ⟨c0, c1, c2, c3, c4⟩ := cellsK5 HA.out
 refine wp_loop_rounds 6 ?_
 rw [rounds_succ]
 go_wp2_with fail
 have I_ := is_walk q 5 ea 2 _ HQ.out
 rw [show ((5 : Int) == 2) = false from rfl] at I_
 refine I_.mono ?_
 rintro e w1 ⟨rfl, rfl⟩
 clear I_
 go_wp2_with fail
 rw [rounds_succ]
 go_wp2_with fail
 have I_ := is_walk q 5 ea 4 _ HQ.out
 rw [show ((5 : Int) == 4) = false from rfl] at I_
 refine I_.mono ?_
 rintro e w1 ⟨rfl, rfl⟩
 clear I_
 go_wp2_with fail
 rw [rounds_succ]
 go_wp2_with fail
 have I_ := is_walk q 5 ea 5 _ HQ.out
 rw [show ((5 : Int) == 5) = true from rfl] at I_
 refine I_.mono ?_
 rintro e w1 ⟨rfl, rfl⟩
 clear I_
 go_wp2_with fail
 go_ret
 exact ⟨rfl, HB.out⟩
set_option maxHeartbeats 4000000 in
theorem number6 (q : Nat) (ea : Int) (w : World) (h : w.heap[q]? = some (.cells #[.int .i64 ea, .iface 78 (.int .i64 6)] 74 (0, 0))) :
  Calls Tryd.prog 40 #[.iface 70 (.pointer (some ⟨q, 0, none⟩))] w fun ev w' => ev = .returned (.int .i64 6) ∧ Below w.heap.size w w' := by
 have HH := Aside0.mk h
 clear h
 go_enter Tryd.func40, Tryd.ntmps40
 go_wp2_with fail
 have HB := Aside0.mk (below_alloc (Below.refl w.heap.size w) (Obj.cells #[.int .i64 2, .int .i64 4, .int .i64 5, .int .i64 6, .int .i64 3] 28))
 have HA : Aside0 ((w.alloc (Obj.cells #[.int .i64 2, .int .i64 4, .int .i64 5, .int .i64 6, .int .i64 3] 28)).heap[w.heap.size]? = some (Obj.cells #[.int .i64 2, .int .i64 4, .int .i64 5, .int .i64 6, .int .i64 3] 28)) := ⟨heap_alloc_new _ _⟩
 have HQ := Aside0.mk ((HB.out.block q (blk_lt HH.out)).trans HH.out)
 generalize w.alloc (Obj.cells #[.int .i64 2, .int .i64 4, .int .i64 5, .int .i64 6, .int .i64 3] 28) = wa at *
 obtain ⟨b, hb⟩ : ∃ b, b = w.heap.size := ⟨_, rfl⟩
 rw [← hb]
 rw [← hb] at HA
 have HBX := Aside0.mk hb
 clear hb
 obtain ⟨c0, c1, c2, c3, c4⟩ := cellsK5 HA.out
 refine wp_loop_rounds 6 ?_
 rw [rounds_succ]
 go_wp2_with fail
 have I_ := is_walk q 6 ea 2 _ HQ.out
 rw [show ((6 : Int) == 2) = false from rfl] at I_
 refine I_.mono ?_
 rintro e w1 ⟨rfl, rfl⟩
 clear I_
 go_wp2_with fail
 rw [rounds_succ]
 go_wp2_with fail
 have I_ := is_walk q 6 ea 4 _ HQ.out
 rw [show ((6 : Int) == 4) = false from rfl] at I_
 refine I_.mono ?_
 rintro e w1 ⟨rfl, rfl⟩
 clear I_
 go_wp2_with fail
 rw [rounds_succ]
 go_wp2_with fail
 have I_ := is_walk q 6 ea 5 _ HQ.out
 rw [show ((6 : Int) == 5) = false from rfl] at I_
 refine I_.mono ?_
 rintro e w1 ⟨rfl, rfl⟩
 clear I_
 go_wp2_with fail
 rw [rounds_succ]
 go_wp2_with fail
 have I_ := is_walk q 6 ea 6 _ HQ.out
 rw [show ((6 : Int) == 6) = true from rfl] at I_
 refine I_.mono ?_
 rintro e w1 ⟨rfl, rfl⟩
 clear I_
 go_wp2_with fail
 go_ret
 exact ⟨rfl, HB.out⟩
set_option maxHeartbeats 4000000 in
theorem number3 (q : Nat) (ea : Int) (w : World) (h : w.heap[q]? = some (.cells #[.int .i64 ea, .iface 78 (.int .i64 3)] 74 (0, 0))) :
  Calls Tryd.prog 40 #[.iface 70 (.pointer (some ⟨q, 0, none⟩))] w fun ev w' => ev = .returned (.int .i64 3) ∧ Below w.heap.size w w' := by
 have HH := Aside0.mk h
 clear h
 go_enter Tryd.func40, Tryd.ntmps40
 go_wp2_with fail
 have HB := Aside0.mk (below_alloc (Below.refl w.heap.size w) (Obj.cells #[.int .i64 2, .int .i64 4, .int .i64 5, .int .i64 6, .int .i64 3] 28))
 have HA : Aside0 ((w.alloc (Obj.cells #[.int .i64 2, .int .i64 4, .int .i64 5, .int .i64 6, .int .i64 3] 28)).heap[w.heap.size]? = some (Obj.cells #[.int .i64 2, .int .i64 4, .int .i64 5, .int .i64 6, .int .i64 3] 28)) := ⟨heap_alloc_new _ _⟩
 have HQ := Aside0.mk ((HB.out.block q (blk_lt HH.out)).trans HH.out)
 generalize w.alloc (Obj.cells #[.int .i64 2, .int .i64 4, .int .i64 5, .int .i64 6, .int .i64 3] 28) = wa at *
 obtain ⟨b, hb⟩ : ∃ b, b = w.heap.size := ⟨_, rfl⟩
 rw [← hb]
 rw [← hb] at HA
 have HBX := Aside0.mk hb
 clear hb
 obtain ⟨c0, c1, c2, c3, c4⟩ := cellsK5 HA.out
 refine wp_loop_rounds 6 ?_
 rw [rounds_succ]
 go_wp2_with fail
 have I_ := is_walk q 3 ea 2 _ HQ.out
 rw [show ((3 : Int) == 2) = false from rfl] at I_
 refine I_.mono ?_
 rintro e w1 ⟨rfl, rfl⟩
 clear I_
 go_wp2_with fail
 rw [rounds_succ]
 go_wp2_with fail
 have I_ := is_walk q 3 ea 4 _ HQ.out
 rw [show ((3 : Int) == 4) = false from rfl] at I_
 refine I_.mono ?_
 rintro e w1 ⟨rfl, rfl⟩
 clear I_
 go_wp2_with fail
 rw [rounds_succ]
 go_wp2_with fail
 have I_ := is_walk q 3 ea 5 _ HQ.out
 rw [show ((3 : Int) == 5) = false from rfl] at I_
 refine I_.mono ?_
 rintro e w1 ⟨rfl, rfl⟩
 clear I_
 go_wp2_with fail
 rw [rounds_succ]
 go_wp2_with fail
 have I_ := is_walk q 3 ea 6 _ HQ.out
 rw [show ((3 : Int) == 6) = false from rfl] at I_
 refine I_.mono ?_
 rintro e w1 ⟨rfl, rfl⟩
 clear I_
 go_wp2_with fail
 rw [rounds_succ]
 go_wp2_with fail
 have I_ := is_walk q 3 ea 3 _ HQ.out
 rw [show ((3 : Int) == 3) = true from rfl] at I_
 refine I_.mono ?_
 rintro e w1 ⟨rfl, rfl⟩
 clear I_
 go_wp2_with fail
 go_ret
 exact ⟨rfl, HB.out⟩
theorem number_walk {m : Nat} {v : Value} {e ea : Int} (w : World) (H : Er w m v e ea) (he : e = 0 ∨ e = 2 ∨ e = 3 ∨ e = 4 ∨ e = 5 ∨ e = 6) :
  Calls Tryd.prog 40 #[v] w fun ev w' => ev = .returned (.int .i64 e) ∧ Below w.heap.size w w' := by
 rcases H with ⟨rfl, rfl⟩ | ⟨h0, q, _, rfl, hb⟩
 ·exact number0 w
 ·rcases he with rfl | rfl | rfl | rfl | rfl | rfl
  ·exact absurd rfl h0
  ·exact number2 q ea w hb
  ·exact number3 q ea w hb
  ·exact number4 q ea w hb
  ·exact number5 q ea w hb
  ·exact number6 q ea w hb
end Go.Proofs.YtaaifdclojkdmaaDoor.MFr
set_option linter.unusedVariables false
set_option linter.unusedSimpArgs false
set_option maxRecDepth 100000
namespace Go.Proofs.YtaaifdclojkdmaaDoor.MFr
open Go.RowKit Go.Extern.Stop Go.Stop Go.Extern Go.Proofs.YtaaifdclojkdmaaDoorW.PrintWords Go.Proofs.YtaaifdclojkdmaaDoorW.PrintLast Go.Proofs.YtaaifdclojkdmaaDoorW.PrintMore
theorem as_nil (t : Value) (w : World) :
  Calls Tryd.prog 43 #[.nilIface, t] w fun e w' => e = .returned (.bool false) ∧ w' = w := by
 go_enter Tryd.func43, Tryd.ntmps43
 go_wp2
 go_ret
 exact ⟨rfl, rfl⟩
theorem as_valueOf27 (t : Addr) (w : World) : (ReflectliteValue.unpack (.iface 72 (.pointer (some t)))).run Tryd.prog w
  = .ok (.agg #[.pointer (some ⟨1, 72, none⟩), .pointer (some ⟨w.heap.size, 0, none⟩), .int .u64 150]) (w.alloc (.cells #[.pointer (some t)] 72)) := by kernel_rfl
theorem as_type27 (a : Addr) (w : World) : (ReflectliteValue.methodAny (ReflectliteValue.valueError "reflectlite.Value.Type" 0) (fun t _ _ _ => ReflectliteType.toType t) #[.agg #[.pointer (some ⟨1, 72, none⟩), .pointer (some a), .int .u64 150]]).run Tryd.prog w
  = .ok (.iface 118 (.agg #[.pointer (some ⟨1, 72, none⟩)])) w := by kernel_rfl
theorem as_methodKind (h : Value) (w : World) : (Go.method 261 118 (.agg #[h]) "Kind").run Tryd.prog w = .ok (100, h) w := by kernel_rfl
theorem as_kind27 (w : World) : ((ReflectliteType.abiMethod fun t => (fun a : Nat => Value.int IntKind.u8 (a : Int)) <$> Rtype.kind t) #[.pointer (some ⟨1, 72, none⟩)]).run Tryd.prog w = .ok (.int .u8 22) w := by kernel_rfl
theorem as_kind25 (w : World) : ((ReflectliteType.abiMethod fun t => (fun a : Nat => Value.int IntKind.u8 (a : Int)) <$> Rtype.kind t) #[.pointer (some ⟨1, 70, none⟩)]).run Tryd.prog w = .ok (.int .u8 22) w := by kernel_rfl
theorem rlm (z : Sem Value) (f : TypeId → Addr → Nat → Nat → Sem Value) (v : Value) :
  ReflectliteValue.method z f #[v] = (do match ← ReflectliteValue.parts v with | none => z | some (t, a, fl) => f t a fl (fl % 32)) := rfl
theorem as_parts27 (a : Addr) (w : World) : (ReflectliteValue.parts (.agg #[.pointer (some ⟨1, 72, none⟩), .pointer (some a), .int .u64 150])).run Tryd.prog w = .ok (some (72, a, 150)) w := by kernel_rfl
theorem as_isNil27 (a p : Addr) (W : World) (ha : W.cell? a = some (.pointer (some p))) :
  (ReflectliteValue.method (ReflectliteValue.valueError "reflectlite.Value.IsNil" 0) ReflectliteValue.isNil #[.agg #[.pointer (some ⟨1, 72, none⟩), .pointer (some a), .int .u64 150]]).run Tryd.prog W = .ok (.bool false) W := by
 rw [rlm]
 simp only [Sem.run_bind, as_parts27, Result.andThen]
 simp [ReflectliteValue.isNil, loadVar, isAgg, underlying, Tryd.underlying72, ha, Result.andThen]
theorem as_methodElem (h : Value) (w : World) : (Go.method 261 118 (.agg #[h]) "Elem").run Tryd.prog w = .ok (112, .agg #[h]) w := by kernel_rfl
theorem as_methodImplements (h : Value) (w : World) : (Go.method 261 118 (.agg #[h]) "Implements").run Tryd.prog w = .ok (113, .agg #[h]) w := by kernel_rfl
theorem as_methodAssignableTo (h : Value) (w : World) : (Go.method 261 118 (.agg #[h]) "AssignableTo").run Tryd.prog w = .ok (110, .agg #[h]) w := by kernel_rfl
theorem as_elem27 (w : World) : (ReflectliteType.method ReflectliteType.elem #[.agg #[.pointer (some ⟨1, 72, none⟩)]]).run Tryd.prog w = .ok (.iface 118 (.agg #[.pointer (some ⟨1, 70, none⟩)])) w := by kernel_rfl
theorem as_implements25 (w : World) : (ReflectliteType.relation "Implements" ReflectliteType.implements_ #[.agg #[.pointer (some ⟨1, 70, none⟩)], .iface 118 (.agg #[.pointer (some ⟨1, 65, none⟩)])]).run Tryd.prog w = .ok (.bool true) w := by kernel_rfl
theorem as_typeOf25 (v : Value) (w : World) : (ReflectliteType.typeOf #[.iface 70 v]).run Tryd.prog w = .ok (.iface 118 (.agg #[.pointer (some ⟨1, 70, none⟩)])) w := by kernel_rfl
theorem as_assignable25 (w : World) : (ReflectliteType.relation "AssignableTo" ReflectliteType.assignableTo #[.agg #[.pointer (some ⟨1, 70, none⟩)], .iface 118 (.agg #[.pointer (some ⟨1, 70, none⟩)])]).run Tryd.prog w = .ok (.bool true) w := by kernel_rfl
theorem as_valueOf25 (e : Addr) (w : World) : (ReflectliteValue.unpack (.iface 70 (.pointer (some e)))).run Tryd.prog w
  = .ok (.agg #[.pointer (some ⟨1, 70, none⟩), .pointer (some ⟨w.heap.size, 0, none⟩), .int .u64 150]) (w.alloc (.cells #[.pointer (some e)] 70)) := by kernel_rfl
theorem as_elemOf27 (w : World) : (Rtype.elem? 72).run Tryd.prog w = .ok (some 70) w := by kernel_rfl
theorem as_mk25 (p : Addr) (w : World) : (ReflectliteValue.mk 70 p ReflectliteValue.flagAddr).run Tryd.prog w = .ok (.agg #[.pointer (some ⟨1, 70, none⟩), .pointer (some p), .int .u64 406]) w := by kernel_rfl
theorem as_elemV27 (a p : Addr) (W : World) (ha : W.cell? a = some (.pointer (some p))) :
  (ReflectliteValue.method (ReflectliteValue.valueError "reflectlite.Value.Elem" 0) ReflectliteValue.elem #[.agg #[.pointer (some ⟨1, 72, none⟩), .pointer (some a), .int .u64 150]]).run Tryd.prog W
   = .ok (.agg #[.pointer (some ⟨1, 70, none⟩), .pointer (some p), .int .u64 406]) W := by
 rw [rlm]
 simp only [Sem.run_bind, as_parts27, Result.andThen]
 simp [ReflectliteValue.elem, loadVar, isAgg, underlying, Tryd.underlying72, ha, Result.andThen, as_elemOf27, as_mk25]
theorem rls (v x : Value) : ReflectliteValue.set #[v, x] = (do
  let (some (dst, a, fl), some (src, b, _)) := (← ReflectliteValue.parts v, ← ReflectliteValue.parts x)
   | unsupported (.noEntry "extern/(internal/reflectlite.Value).Set.zeroValue")
  if fl / ReflectliteValue.flagAddr % 2 == 0 then unsupported (.noEntry "extern/(internal/reflectlite.Value).Set.unaddressable")
  let val ← loadVar src b
  if ← Rtype.directlyAssignable dst src then storeVar dst a val
  else if ← Rtype.implements dst src then
   if (← Rtype.kind src) == 20 then
    match val with
    | .nilIface => unsupported (.noEntry "extern/reflectlite: a nil value of one interface type handed on as a value of another")
    | _ => storeVar dst a val
   else storeVar dst a (.iface src val)
  else panicString ("reflectlite.Set: value of type " ++ (← Rtype.spelt src) ++ " is not assignable to type " ++ (← Rtype.spelt dst))
  pure (.tuple #[])) := rfl
theorem as_parts25a (a : Addr) (w : World) : (ReflectliteValue.parts (.agg #[.pointer (some ⟨1, 70, none⟩), .pointer (some a), .int .u64 406])).run Tryd.prog w = .ok (some (70, a, 406)) w := by kernel_rfl
theorem as_parts25 (a : Addr) (w : World) : (ReflectliteValue.parts (.agg #[.pointer (some ⟨1, 70, none⟩), .pointer (some a), .int .u64 150])).run Tryd.prog w = .ok (some (70, a, 150)) w := by kernel_rfl
theorem as_direct25 (w : World) : (Rtype.directlyAssignable 70 70).run Tryd.prog w = .ok true w := by kernel_rfl
theorem as_set25 (ta b e : Addr) (old : Value) (W : World) (hb : W.cell? b = some (.pointer (some e))) (ht : W.cell? ta = some old) (hf : W.frozen? ta = false) :
  (ReflectliteValue.set #[.agg #[.pointer (some ⟨1, 70, none⟩), .pointer (some ta), .int .u64 406], .agg #[.pointer (some ⟨1, 70, none⟩), .pointer (some b), .int .u64 150]]).run Tryd.prog W
   = .ok (.tuple #[]) (W.setCell ta (.pointer (some e))) := by
 rw [rls]
 simp only [Sem.run_bind, as_parts25a, as_parts25, Result.andThen]
 simp [ReflectliteValue.flagAddr, loadVar, isAgg, underlying, Tryd.underlying70, hb, Result.andThen, as_direct25, storeVar, Value.cells, storeCells, Addr.add]
 rw [run_store Tryd.prog W ta _ _ (by rfl)]
 simp [ht, hf]
set_option maxHeartbeats 4000000 in
theorem as_hit (e t : Addr) (old : Value) (w : World) (hg : w.cell? ⟨0, 0, none⟩ = some (.iface 118 (.agg #[.pointer (some ⟨1, 65, none⟩)]))) (ht0 : w.cell? t = some old) (hf0 : w.frozen? t = false) :
  Calls Tryd.prog 43 #[.iface 70 (.pointer (some e)), .iface 72 (.pointer (some t))] w fun ev w' => ev = .returned (.bool true) ∧ w' = ((((w.alloc (.cells #[.pointer (some t)] 72)).alloc (.cells #[.pointer (some ⟨1, 72, none⟩), .pointer (some ⟨w.heap.size, 0, none⟩), .int .u64 150] 96)).alloc (.cells #[.pointer (some ⟨1, 72, none⟩), .pointer (some ⟨w.heap.size, 0, none⟩), .int .u64 150] 96)).alloc (.cells #[.pointer (some e)] 70)).setCell t (.pointer (some e)) := by
 have h6 := @run_callFunc_extern Tryd.prog 60 _ (fun args => ReflectliteValue.unpack (args.getD 0 (.tuple #[]))) Tryd.func60 (by kernel_rfl) (by kernel_rfl) (by kernel_rfl) (by kernel_rfl)
 have h7 := @run_callFunc_extern Tryd.prog 61 _ (ReflectliteValue.methodAny (ReflectliteValue.valueError "reflectlite.Value.Type" 0) (fun t _ _ _ => ReflectliteType.toType t)) Tryd.func61 (by kernel_rfl) (by kernel_rfl) (by kernel_rfl) (by kernel_rfl)
 have h8 := @run_callFunc_extern Tryd.prog 62 _ (ReflectliteValue.method (ReflectliteValue.valueError "reflectlite.Value.IsNil" 0) ReflectliteValue.isNil) Tryd.func62 (by kernel_rfl) (by kernel_rfl) (by kernel_rfl) (by kernel_rfl)
 have h27 := @run_callFunc_extern Tryd.prog 100 _ (ReflectliteType.abiMethod fun t => do pure (.int .u8 (← Rtype.kind t))) Tryd.func100 (by kernel_rfl) (by kernel_rfl) (by kernel_rfl) (by kernel_rfl)
 have h37 := @run_callFunc_extern Tryd.prog 112 _ (ReflectliteType.method ReflectliteType.elem) Tryd.func112 (by kernel_rfl) (by kernel_rfl) (by kernel_rfl) (by kernel_rfl)
 have h38 := @run_callFunc_extern Tryd.prog 113 _ (ReflectliteType.relation "Implements" ReflectliteType.implements_) Tryd.func113 (by kernel_rfl) (by kernel_rfl) (by kernel_rfl) (by kernel_rfl)
 have h10 := @run_callFunc_extern Tryd.prog 74 _ ReflectliteType.typeOf Tryd.func74 (by kernel_rfl) (by kernel_rfl) (by kernel_rfl) (by kernel_rfl)
 have h35 := @run_callFunc_extern Tryd.prog 110 _ (ReflectliteType.relation "AssignableTo" ReflectliteType.assignableTo) Tryd.func110 (by kernel_rfl) (by kernel_rfl) (by kernel_rfl) (by kernel_rfl)
 have h11 := @run_callFunc_extern Tryd.prog 77 _ (ReflectliteValue.method (ReflectliteValue.valueError "reflectlite.Value.Elem" 0) ReflectliteValue.elem) Tryd.func77 (by kernel_rfl) (by kernel_rfl) (by kernel_rfl) (by kernel_rfl)
 have h12 := @run_callFunc_extern Tryd.prog 78 _ ReflectliteValue.set Tryd.func78 (by kernel_rfl) (by kernel_rfl) (by kernel_rfl) (by kernel_rfl)
 have tO := as_typeOf25
 have mA := as_methodAssignableTo
 have a25 := as_assignable25
 have v25 := as_valueOf25
 have f6 := as_valueOf27
 have f7 := as_type27
 have mK := as_methodKind
 have mE := as_methodElem
 have mI := as_methodImplements
 have k27 := as_kind27
 have k25 := as_kind25
 have e27 := as_elem27
 have i25 := as_implements25
 have n8 := as_isNil27 ⟨w.heap.size, 0, none⟩ t ((w.alloc (.cells #[.pointer (some t)] 72)).alloc (.cells #[.pointer (some ⟨1, 72, none⟩), .pointer (some ⟨w.heap.size, 0, none⟩), .int .u64 150] 96)) (by simp)
 have hlt : 0 < w.heap.size := by
  rcases Nat.eq_zero_or_pos w.heap.size with h0 | h
  ·simp [World.cell?, h0] at hg
  ·exact h
 have hg2 : ((w.alloc (.cells #[.pointer (some t)] 72)).alloc (.cells #[.pointer (some ⟨1, 72, none⟩), .pointer (some ⟨w.heap.size, 0, none⟩), .int .u64 150] 96)).cell? ⟨0, 0, none⟩ = some (.iface 118 (.agg #[.pointer (some ⟨1, 65, none⟩)])) := by
  rw [World.cell?_alloc_lt _ _ ⟨0, 0, none⟩ (by simp), World.cell?_alloc_lt _ _ ⟨0, 0, none⟩ hlt]; exact hg
 have htl : t.block < w.heap.size := by
  rcases Nat.lt_or_ge t.block w.heap.size with h | h
  ·exact h
  ·simp [World.cell?, Array.getElem?_eq_none h] at ht0
 have el := as_elemV27 ⟨w.heap.size, 0, none⟩ t (((w.alloc (.cells #[.pointer (some t)] 72)).alloc (.cells #[.pointer (some ⟨1, 72, none⟩), .pointer (some ⟨w.heap.size, 0, none⟩), .int .u64 150] 96)).alloc (.cells #[.pointer (some ⟨1, 72, none⟩), .pointer (some ⟨w.heap.size, 0, none⟩), .int .u64 150] 96)) (by rw [World.cell?_alloc_lt _ _ ⟨w.heap.size, 0, none⟩ (by simp; omega)]; simp)
 have st := as_set25 t ⟨w.heap.size + 1 + 1 + 1, 0, none⟩ e old ((((w.alloc (.cells #[.pointer (some t)] 72)).alloc (.cells #[.pointer (some ⟨1, 72, none⟩), .pointer (some ⟨w.heap.size, 0, none⟩), .int .u64 150] 96)).alloc (.cells #[.pointer (some ⟨1, 72, none⟩), .pointer (some ⟨w.heap.size, 0, none⟩), .int .u64 150] 96)).alloc (.cells #[.pointer (some e)] 70))
  (by rw [World.cell?_alloc_at _ _ _ _ (by simp)]; rfl)
  (by rw [World.cell?_alloc_lt _ _ t (by simp; omega), World.cell?_alloc_lt _ _ t (by simp; omega), World.cell?_alloc_lt _ _ t (by simp; omega), World.cell?_alloc_lt _ _ t htl]; exact ht0)
  (by rw [World.frozen?_alloc_old _ _ t (by simp; omega), World.frozen?_alloc_old _ _ t (by simp; omega), World.frozen?_alloc_old _ _ t (by simp; omega), World.frozen?_alloc_old _ _ t (Nat.ne_of_lt htl)]; exact hf0)
 go_enter Tryd.func43, Tryd.ntmps43
 go_wp2
 refine wp_loop_rounds 1 ?_
 rw [rounds_succ]
 go_wp2
 go_ret
 exact ⟨rfl, rfl⟩
end Go.Proofs.YtaaifdclojkdmaaDoor.MFr
namespace Go.Proofs.YtaaifdclojkdmaaDoor.MFr
open Go.RowKit Go.Proofs.YtaaifdclojkdmaaDoorW.PrintWords Go.Proofs.YtaaifdclojkdmaaDoorW.PrintLast Go.Proofs.YtaaifdclojkdmaaDoorW.PrintMore
attribute [local go_sem] mp_u32s mp_u32m mp_u8s mp_u8m max2_int min2_int max_two min_two max_three min_three max_four min_four
set_option linter.unusedVariables false
set_option linter.unusedSimpArgs false
def drumlineref1_Eight.l0 : Nat → Int → Int → Option (Int)
 | 0, _, _ => none
 | k + 1, x0, x3 => if x3 < 8 then (if (x0 / 2147483648) = 1 then (drumlineref1_Eight.l0 k (Go.bits .xor .u32 ((x0 * 2) % 4294967296) 79764919) (wrap64 (x3 + 1))) else (drumlineref1_Eight.l0 k ((x0 * 2) % 4294967296) (wrap64 (x3 + 1)))) else (some x0)
def drumlineref1_Eight.f (k : Nat) (a0 : Int) : Option (Int) := drumlineref1_Eight.l0 k a0 0
theorem drumlineref1_Eight.mono_l : ∀ k, (∀ y0 y1, LeO (drumlineref1_Eight.l0 k y0 y1) (drumlineref1_Eight.l0 (k + 1) y0 y1))
 | 0 => fun _ _ r h => by simp [drumlineref1_Eight.l0] at h
 | k + 1 => by
  have ih0 := drumlineref1_Eight.mono_l k
  ·intro y0 y1
   unfold drumlineref1_Eight.l0
   repeat' first
   | (with_reducible exact ih0 _ _)
   | (with_reducible exact LeO.refl _)
   | (with_reducible exact LeO.none _)
   | (with_reducible refine LeO.ite ?_ ?_)
   | (with_reducible refine LeO.bind ?_ (fun _ => ?_))
   | exact ih0 _ _
   | exact LeO.none _
   | refine LeO.ite ?_ ?_
   | refine LeO.bind ?_ (fun _ => ?_)
theorem drumlineref1_Eight.mono : ∀ a0 k, LeO (drumlineref1_Eight.f k a0) (drumlineref1_Eight.f (k + 1) a0) := by
 intro a0 k
 have ih0 := drumlineref1_Eight.mono_l k
 unfold drumlineref1_Eight.f
 repeat' first
   | (with_reducible exact ih0 _ _)
   | (with_reducible exact LeO.refl _)
   | (with_reducible exact LeO.none _)
   | (with_reducible refine LeO.ite ?_ ?_)
   | (with_reducible refine LeO.bind ?_ (fun _ => ?_))
   | exact ih0 _ _
   | exact LeO.none _
   | refine LeO.ite ?_ ?_
   | refine LeO.bind ?_ (fun _ => ?_)
set_option maxHeartbeats 8000000 in
set_option maxRecDepth 100000 in
theorem drumlineref1_Eight.calls (k : Nat) (a0 : Int) (r : Int) (w : World) (h : drumlineref1_Eight.f k a0 = some r) :
  Calls Tryd.prog 76 #[.int .u32 a0] w fun e w' => e = .returned (.int .u32 r) ∧ Drawn0 w w' := by
 have H : (drumlineref1_Eight.l0 k a0 0) = some r := h
 clear h
 have H' := Aside0.mk H
 clear H
 go_enter Tryd.func76, Tryd.ntmps76
 go_wp2
 go_loopg [0, 3] k (fun kq v0 v3 w' => ∃ (x0_1 : Int) (x3_1 : Int), v0 = .int .u32 x0_1 ∧ v3 = .int .i64 x3_1 ∧ Aside0 (drumlineref1_Eight.l0 kq x0_1 x3_1 = some r) ∧ Aside0 (kq ≤ k) ∧ Drawn0 w w')
 case atStart => exact ⟨(a0), (0), (by first | rfl | (simp; done) | (simp [*]; done)), (by first | rfl | (simp; done) | (simp [*]; done)), H', ⟨Nat.le_refl _⟩, by repeat (first | exact Drawn0.refl _ | apply Drawn0.step)⟩
 case round =>
  clear H'
  obtain ⟨x0_1, x3_1, rfl, rfl, HA, HK1, ⟨m1, rfl⟩⟩ := hrel
  cases gk with
  | zero => exact absurd HA.out (by simp [drumlineref1_Eight.l0])
  | succ k1 =>
   have H := HA.out
   clear HA
   simp only [drumlineref1_Eight.l0] at H
   by_cases c2 : x3_1 < 8
   ·rw [if_pos c2] at H
    have c2b0 : decide (x3_1 < 8) = true := decide_eq_true c2
    clear c2
    by_cases c3 : (x0_1 / 2147483648) = 1
    ·rw [if_pos c3] at H
     have c3b0 : ((x0_1 / 2147483648) == 1) = true := beq_iff_eq.mpr c3
     have c3b1 : ((x0_1 / 2147483648) != 1) = false := bne_eq_false_iff_eq.mpr c3
     clear c3
     have H' := Aside0.mk H
     clear H
     go_wp2
     go_roundg k1
     case measure => have := HK1.out; omega
     case rel => exact ⟨(Go.bits .xor .u32 ((x0_1 * 2) % 4294967296) 79764919), (wrap64 (x3_1 + 1)), (by first | rfl | (simp; done) | (simp [*]; done)), (by first | rfl | (simp; done) | (simp [*]; done)), H', ⟨by have := HK1.out; omega⟩, by repeat (first | exact Drawn0.refl _ | apply Drawn0.step)⟩
    ·rw [if_neg c3] at H
     have c3b0 : ((x0_1 / 2147483648) == 1) = false := beq_eq_false_iff_ne.mpr c3
     have c3b1 : ((x0_1 / 2147483648) != 1) = true := bne_iff_ne.mpr c3
     have H' := Aside0.mk H
     clear H
     go_wp2
     go_roundg k1
     case measure => have := HK1.out; omega
     case rel => exact ⟨((x0_1 * 2) % 4294967296), (wrap64 (x3_1 + 1)), (by first | rfl | (simp; done) | (simp [*]; done)), (by first | rfl | (simp; done) | (simp [*]; done)), H', ⟨by have := HK1.out; omega⟩, by repeat (first | exact Drawn0.refl _ | apply Drawn0.step)⟩
   ·rw [if_neg c2] at H
    have c2b0 : decide (x3_1 < 8) = false := decide_eq_false c2
    clear c2
    obtain rfl := Option.some.inj H
    go_wp2
    go_ret
    exact ⟨by first | rfl | (simp; done) | (simp [*]; done), by repeat (first | exact Drawn0.refl _ | apply Drawn0.step)⟩
def drumlineref1_More.l0 : Nat → Int → List Int → Int → Option (Int)
 | 0, _, _, _ => none
 | k + 1, x0, x1, x5 => if x5 < (x1.length : Int) then (if 0 ≤ x5 then ((drumlineref1_Eight.f k (Go.bits .xor .u32 x0 ((((rd x1 x5) % 4294967296) * 16777216) % 4294967296))).bind fun t215 => (drumlineref1_More.l0 k t215 x1 (wrap64 (x5 + 1)))) else (none)) else (some (Go.bits .xor .u32 4294967295 x0))
def drumlineref1_More.f (k : Nat) (a0 : Int) (l1 : List Int) : Option (Int) := drumlineref1_More.l0 k (Go.bits .xor .u32 4294967295 a0) l1 0
theorem drumlineref1_More.mono_l : ∀ k, (∀ y0 y1 y2, LeO (drumlineref1_More.l0 k y0 y1 y2) (drumlineref1_More.l0 (k + 1) y0 y1 y2))
 | 0 => fun _ _ _ r h => by simp [drumlineref1_More.l0] at h
 | k + 1 => by
  have ih0 := drumlineref1_More.mono_l k
  ·intro y0 y1 y2
   unfold drumlineref1_More.l0
   repeat' first
   | (with_reducible exact ih0 _ _ _)
   | (with_reducible exact drumlineref1_Eight.mono _ _)
   | (with_reducible exact LeO.refl _)
   | (with_reducible exact LeO.none _)
   | (with_reducible refine LeO.ite ?_ ?_)
   | (with_reducible refine LeO.bind ?_ (fun _ => ?_))
   | exact ih0 _ _ _
   | exact drumlineref1_Eight.mono _ _
   | exact LeO.none _
   | refine LeO.ite ?_ ?_
   | refine LeO.bind ?_ (fun _ => ?_)
theorem drumlineref1_More.mono : ∀ a0 a1 k, LeO (drumlineref1_More.f k a0 a1) (drumlineref1_More.f (k + 1) a0 a1) := by
 intro a0 a1 k
 have ih0 := drumlineref1_More.mono_l k
 unfold drumlineref1_More.f
 repeat' first
   | (with_reducible exact ih0 _ _ _)
   | (with_reducible exact drumlineref1_Eight.mono _ _)
   | (with_reducible exact LeO.refl _)
   | (with_reducible exact LeO.none _)
   | (with_reducible refine LeO.ite ?_ ?_)
   | (with_reducible refine LeO.bind ?_ (fun _ => ?_))
   | exact ih0 _ _ _
   | exact drumlineref1_Eight.mono _ _
   | exact LeO.none _
   | refine LeO.ite ?_ ?_
   | refine LeO.bind ?_ (fun _ => ?_)
set_option maxHeartbeats 8000000 in
set_option maxRecDepth 100000 in
theorem drumlineref1_More.calls (k : Nat) (a0 : Int) (A1 : Option Addr) (c1 : Nat) (l1 : List Int) (r : Int) (w : World) (hr1 : Kd.C (Kd.int .u8) w A1 l1.length l1) (hc1 : l1.length ≤ c1) (h : drumlineref1_More.f k a0 l1 = some r) :
  Calls Tryd.prog 59 #[.int .u32 a0, .slice A1 l1.length c1] w fun e w' => e = .returned (.int .u32 r) ∧ Drawn0 w w' := by
 have HR1 := Aside0.mk hr1
 have HC1 := Aside0.mk hc1
 clear hr1 hc1
 have H : (drumlineref1_More.l0 k (Go.bits .xor .u32 4294967295 a0) l1 0) = some r := h
 clear h
 have H' := Aside0.mk H
 clear H
 go_enter Tryd.func59, Tryd.ntmps59
 go_wp2
 go_loopg [0, 5] k (fun kq v0 v5 w' => ∃ (x0_1 : Int) (x5_1 : Int), v0 = .int .u32 x0_1 ∧ v5 = .int .i64 x5_1 ∧ Aside0 (drumlineref1_More.l0 kq x0_1 l1 x5_1 = some r) ∧ Aside0 (kq ≤ k) ∧ Drawn0 w w')
 case atStart => exact ⟨(Go.bits .xor .u32 4294967295 a0), (0), (by first | rfl | (simp; done) | (simp [*]; done)), (by first | rfl | (simp; done) | (simp [*]; done)), H', ⟨Nat.le_refl _⟩, by repeat (first | exact Drawn0.refl _ | apply Drawn0.step)⟩
 case round =>
  clear H'
  try clear c1
  try clear p2
  obtain ⟨x0_1, x5_1, rfl, rfl, HA, HK1, ⟨m1, rfl⟩⟩ := hrel
  cases gk with
  | zero => exact absurd HA.out (by simp [drumlineref1_More.l0])
  | succ k1 =>
   have H := HA.out
   clear HA
   simp only [drumlineref1_More.l0] at H
   by_cases c3 : x5_1 < (l1.length : Int)
   ·rw [if_pos c3] at H
    have c3b0 : decide (x5_1 < (l1.length : Int)) = true := decide_eq_true c3
    clear c3
    by_cases c4 : 0 ≤ x5_1
    ·rw [if_pos c4] at H
     have c4b0 : decide (0 ≤ x5_1) = true := decide_eq_true c4
     clear c4
     replace H := Option.bind_eq_some_iff.mp H
     obtain ⟨t215, A50, H⟩ := H
     replace H : (drumlineref1_More.l0 k1 t215 l1 (wrap64 (x5_1 + 1))) = some r := H
     have A5 := Aside0.mk A50
     clear A50
     have H' := Aside0.mk H
     clear H
     have p214 : 0 ≤ (x5_1 : Int) := of_decide_eq_true (by first | (with_reducible assumption) | assumption)
     have q214 : x5_1 < (l1.length : Int) := of_decide_eq_true (by first | (with_reducible assumption) | assumption)
     obtain ⟨ad214, e214, hx214_0⟩ := Kd.at_int HR1.out x5_1 p214 q214
     cases e214
     replace p214 := eq_true p214
     replace q214 := eq_true q214
     go_wp2_with (first | ((with_reducible refine gate_callee (f := 76) rfl ?_); refine goesL_ (some 22) rfl rfl Tryd.func76 (by kernel_rfl) rfl #[.int .u32 (Go.bits .xor .u32 x0_1 ((((rd l1 x5_1) % 4294967296) * 16777216) % 4294967296))] rfl (by (try simp only [List.map_toArray, List.map_cons, List.map_nil]); first | done | rfl | (simp only [List.length_drop, List.length_take]; rfl)) ?_; (with_reducible refine (drumlineref1_Eight.calls k1 (Go.bits .xor .u32 x0_1 ((((rd l1 x5_1) % 4294967296) * 16777216) % 4294967296)) t215 _ A5.out).mono ?_); rintro e w' ⟨rfl, ⟨nd, rfl⟩⟩; refine ⟨_, rfl, ?_⟩))
     go_roundg k1
     case measure => have := HK1.out; omega
     case rel => exact ⟨(t215), (wrap64 (x5_1 + 1)), (by first | rfl | (simp; done) | (simp [*]; done)), (by first | rfl | (simp; done) | (simp [*]; done)), H', ⟨by have := HK1.out; omega⟩, by repeat (first | exact Drawn0.refl _ | apply Drawn0.step)⟩
    ·rw [if_neg c4] at H
     exact absurd H (by simp)
   ·rw [if_neg c3] at H
    have c3b0 : decide (x5_1 < (l1.length : Int)) = false := decide_eq_false c3
    clear c3
    obtain rfl := Option.some.inj H
    go_wp2
    go_ret
    exact ⟨by first | rfl | (simp; done) | (simp [*]; done), by repeat (first | exact Drawn0.refl _ | apply Drawn0.step)⟩
def drumlineref1_Of.f (k : Nat) (l0 : List Int) : Option (Int) := (drumlineref1_More.f k 0 l0).bind fun t216 => (some t216)
theorem drumlineref1_Of.mono : ∀ a0 k, LeO (drumlineref1_Of.f k a0) (drumlineref1_Of.f (k + 1) a0) := by
 intro a0 k
 unfold drumlineref1_Of.f
 repeat' first
   | (with_reducible exact drumlineref1_More.mono _ _ _)
   | (with_reducible exact LeO.refl _)
   | (with_reducible exact LeO.none _)
   | (with_reducible refine LeO.ite ?_ ?_)
   | (with_reducible refine LeO.bind ?_ (fun _ => ?_))
   | exact drumlineref1_More.mono _ _ _
   | exact LeO.none _
   | refine LeO.ite ?_ ?_
   | refine LeO.bind ?_ (fun _ => ?_)
set_option maxHeartbeats 8000000 in
set_option maxRecDepth 100000 in
theorem drumlineref1_Of.calls (k : Nat) (A0 : Option Addr) (c0 : Nat) (l0 : List Int) (r : Int) (w : World) (hr0 : Kd.C (Kd.int .u8) w A0 l0.length l0) (hc0 : l0.length ≤ c0) (h : drumlineref1_Of.f k l0 = some r) :
  Calls Tryd.prog 41 #[.slice A0 l0.length c0] w fun e w' => e = .returned (.int .u32 r) ∧ Drawn0 w w' := by
 have HR0 := Aside0.mk hr0
 have HC0 := Aside0.mk hc0
 clear hr0 hc0
 have H : ((drumlineref1_More.f k 0 l0).bind fun t216 => (some t216)) = some r := h
 clear h
 replace H := Option.bind_eq_some_iff.mp H
 obtain ⟨t216, A20, H⟩ := H
 replace H : (some t216) = some r := H
 have A2 := Aside0.mk A20
 clear A20
 obtain rfl := Option.some.inj H
 go_enter Tryd.func41, Tryd.ntmps41
 go_wp2_with (first | ((with_reducible refine gate_callee (f := 59) rfl ?_); refine goesL_ (some 4) rfl rfl Tryd.func59 (by kernel_rfl) rfl #[.int .u32 0, .slice A0 l0.length c0] rfl (by (try simp only [List.map_toArray, List.map_cons, List.map_nil]); first | done | rfl | (simp only [List.length_drop, List.length_take]; rfl)) ?_; (with_reducible refine (drumlineref1_More.calls k 0 _ _ l0 t216 _ ?side1 ?side2 A2.out).mono ?_); (case side1 => repeat (first | exact HR0.out | (with_reducible refine Kd.C_alloc ?_ _) | (with_reducible refine Kd.C_drewN ?_ _) | (with_reducible refine Kd.C_drew ?_))); (case side2 => exact HC0.out); rintro e w' ⟨rfl, ⟨nd, rfl⟩⟩; refine ⟨_, rfl, ?_⟩))
 go_ret
 exact ⟨by first | rfl | (simp; done) | (simp [*]; done), by repeat (first | exact Drawn0.refl _ | apply Drawn0.step)⟩
def drumlineref1_Copy.f (l0 : List Int) : Option (List Int) := if ([] : List Int).length + l0.length < 140737488355328 then (some (([] : List Int) ++ l0)) else (none)
set_option maxHeartbeats 8000000 in
set_option maxRecDepth 100000 in
theorem drumlineref1_Copy.calls (A0 : Option Addr) (c0 : Nat) (l0 : List Int) (r : List Int) (w : World) (hr0 : Kd.C (Kd.int .u8) w A0 l0.length l0) (hc0 : l0.length ≤ c0) (h : drumlineref1_Copy.f l0 = some r) :
  Calls Tryd.prog 42 #[.slice A0 l0.length c0] w fun e w' => ∃ v0_ : Value, e = .returned (v0_) ∧ Kd.R (Kd.int .u8) 5 w' w.heap.size (fun _ => True) v0_ r ∧ Below w.heap.size w w' := by
 have HR0 := Aside0.mk hr0
 have HC0 := Aside0.mk hc0
 clear hr0 hc0
 have HB := Aside0.mk (Below.refl w.heap.size w)
 have H : (if ([] : List Int).length + l0.length < 140737488355328 then (some (([] : List Int) ++ l0)) else (none)) = some r := h
 clear h
 by_cases c2 : ([] : List Int).length + l0.length < 140737488355328
 ·rw [if_pos c2] at H
  have LMc2 := Aside0.mk c2
  clear c2
  obtain ⟨y217, hy217⟩ : ∃ y_ : List Int, y_ = (([] : List Int) ++ l0) := ⟨_, rfl⟩
  replace H : (some y217) = some r := by first | (rw [hy217]; with_reducible exact H) | (have H2_ := (Option.bind_some _ _).symm.trans H; rw [hy217]; with_reducible exact H2_) | (have H2_ := (Option.bind_some _ _).symm.trans H; with_reducible exact H2_) | with_reducible exact H | (rw [hy217]; exact H) | exact H
  have Ny217 := Aside0.mk hy217
  clear hy217
  obtain rfl := Option.some.inj H
  go_enter Tryd.func42, Tryd.ntmps42
  go_wp2_with (first | ((with_reducible refine gate_builtin (b := .append) (xs := #[.const (.slice none 0 0), .tmp 3]) rfl ?_); at_builtin; refine Kd.R_append_rows (Kd.int .u8) (w0 := w) w.heap.size rfl (.const (.slice none 0 0)) (.tmp 3) 23 5 (.int .u8 0) 1 rfl Tryd.underlying23 info5 rfl (by decide) (by omega) (.slice none 0 0) ([] : List Int) l0 _ _ _ (fun _ => True) (fun _ => False) rfl rfl ?aO ?aR (fun _ _ h => h) (fun _ h => h.elim) ?aF ?aB ?aS ?aL ?_; (case aR => repeat (first | exact HR0.out | (with_reducible refine Kd.C_alloc ?_ _) | (with_reducible refine Kd.C_drewN ?_ _) | (with_reducible refine Kd.C_drew ?_))); (case aB => exact (by repeat (first | (with_reducible first | exact HB.out | apply below_alloc | apply pw_below_drewN | apply below_drew1) | exact HB.out))); (case aF => exact (fun _ _ => trivial)); (case aO => exact ((Kd.R_nil _ _ _ _ (fun _ => True)))); (case aS => exact (below_size (by repeat (first | (with_reducible first | exact HB.out | apply below_alloc | apply pw_below_drewN | apply below_drew1) | exact HB.out)))); (case aL => have := LMc2.out; omega); intro v218 w3 ho hb hg hat; rw [← Ny217.out] at ho; have n0_ := Aside0.mk (hb); have n1_ := Aside0.mk (ho); clear HB; have HB := n0_; have HO219 := n1_; clear n0_ n1_; clear ho hb hg hat))
  go_ret
  exact ⟨_, by first | rfl | (simp [errW_none, errW_some] <;> rfl) | (simp [*, errW_none, errW_some] <;> rfl), by (with_reducible repeat (first | apply Kd.R_alloc | apply Kd.R_drewN | apply Kd.R_drew)); exact HO219.out, by repeat (first | (with_reducible first | exact HB.out | apply below_alloc | apply pw_below_drewN | apply below_drew1) | exact HB.out)⟩
 ·rw [if_neg c2] at H
  exact absurd H (by simp)
def drumlineref1_Seal.f (k : Nat) (l0 : List Int) : Option (List Int) := (drumlineref1_Of.f k l0).bind fun t220 => ((drumlineref1_Copy.f l0).bind fun t221 => ((some (([(t220 / 16777216) % 256, (t220 / 65536) % 256, (t220 / 256) % 256, (t220) % 256] : List Int) : List Int)).bind fun y224 => (if t221.length + y224.length < 140737488355328 then (some (t221 ++ y224)) else (none))))
theorem drumlineref1_Seal.mono : ∀ a0 k, LeO (drumlineref1_Seal.f k a0) (drumlineref1_Seal.f (k + 1) a0) := by
 intro a0 k
 unfold drumlineref1_Seal.f
 repeat' first
   | (with_reducible exact drumlineref1_Of.mono _ _)
   | (with_reducible exact LeO.refl _)
   | (with_reducible exact LeO.none _)
   | (with_reducible refine LeO.ite ?_ ?_)
   | (with_reducible refine LeO.bind ?_ (fun _ => ?_))
   | exact drumlineref1_Of.mono _ _
   | exact LeO.none _
   | refine LeO.ite ?_ ?_
   | refine LeO.bind ?_ (fun _ => ?_)
set_option maxHeartbeats 8000000 in
set_option maxRecDepth 100000 in
theorem drumlineref1_Seal.calls (k : Nat) (A0 : Option Addr) (c0 : Nat) (l0 : List Int) (r : List Int) (w : World) (hr0 : Kd.C (Kd.int .u8) w A0 l0.length l0) (hc0 : l0.length ≤ c0) (h : drumlineref1_Seal.f k l0 = some r) :
  Calls Tryd.prog 18 #[.slice A0 l0.length c0] w fun e w' => ∃ v0_ : Value, e = .returned (v0_) ∧ Kd.R (Kd.int .u8) 5 w' w.heap.size (fun _ => True) v0_ r ∧ Below w.heap.size w w' := by
 have HR0 := Aside0.mk hr0
 have HC0 := Aside0.mk hc0
 clear hr0 hc0
 have HB := Aside0.mk (Below.refl w.heap.size w)
 have H : ((drumlineref1_Of.f k l0).bind fun t220 => ((drumlineref1_Copy.f l0).bind fun t221 => ((some (([(t220 / 16777216) % 256, (t220 / 65536) % 256, (t220 / 256) % 256, (t220) % 256] : List Int) : List Int)).bind fun y224 => (if t221.length + y224.length < 140737488355328 then (some (t221 ++ y224)) else (none))))) = some r := h
 clear h
 replace H := Option.bind_eq_some_iff.mp H
 obtain ⟨t220, A20, H⟩ := H
 replace H : ((drumlineref1_Copy.f l0).bind fun t221 => ((some (([(t220 / 16777216) % 256, (t220 / 65536) % 256, (t220 / 256) % 256, (t220) % 256] : List Int) : List Int)).bind fun y224 => (if t221.length + y224.length < 140737488355328 then (some (t221 ++ y224)) else (none)))) = some r := H
 have A2 := Aside0.mk A20
 clear A20
 replace H := Option.bind_eq_some_iff.mp H
 obtain ⟨t221, A30, H⟩ := H
 replace H : ((some (([(t220 / 16777216) % 256, (t220 / 65536) % 256, (t220 / 256) % 256, (t220) % 256] : List Int) : List Int)).bind fun y224 => (if t221.length + y224.length < 140737488355328 then (some (t221 ++ y224)) else (none))) = some r := H
 have A3 := Aside0.mk A30
 clear A30
 obtain ⟨y224, hy224⟩ : ∃ y_ : List Int, y_ = (([(t220 / 16777216) % 256, (t220 / 65536) % 256, (t220 / 256) % 256, (t220) % 256] : List Int)) := ⟨_, rfl⟩
 replace H : (if t221.length + y224.length < 140737488355328 then (some (t221 ++ y224)) else (none)) = some r := by first | (rw [hy224]; with_reducible exact H) | (have H2_ := (Option.bind_some _ _).symm.trans H; rw [hy224]; with_reducible exact H2_) | (have H2_ := (Option.bind_some _ _).symm.trans H; with_reducible exact H2_) | with_reducible exact H | (rw [hy224]; exact H) | exact H
 have Ny224 := Aside0.mk hy224
 clear hy224
 by_cases c4 : t221.length + y224.length < 140737488355328
 ·rw [if_pos c4] at H
  have LMc4 := Aside0.mk c4
  clear c4
  obtain ⟨y227, hy227⟩ : ∃ y_ : List Int, y_ = (t221 ++ y224) := ⟨_, rfl⟩
  replace H : (some y227) = some r := by first | (rw [hy227]; with_reducible exact H) | (have H2_ := (Option.bind_some _ _).symm.trans H; rw [hy227]; with_reducible exact H2_) | (have H2_ := (Option.bind_some _ _).symm.trans H; with_reducible exact H2_) | with_reducible exact H | (rw [hy227]; exact H) | exact H
  have Ny227 := Aside0.mk hy227
  clear hy227
  obtain rfl := Option.some.inj H
  go_enter Tryd.func18, Tryd.ntmps18
  go_wp2_with (first | ((with_reducible refine gate_callee (f := 41) rfl ?_); refine goesL_ (some 5) rfl rfl Tryd.func41 (by kernel_rfl) rfl #[.slice A0 l0.length c0] rfl (by (try simp only [List.map_toArray, List.map_cons, List.map_nil]); first | done | rfl | (simp only [List.length_drop, List.length_take]; rfl)) ?_; (with_reducible refine (drumlineref1_Of.calls k _ _ l0 t220 _ ?side1 ?side2 A2.out).mono ?_); (case side1 => repeat (first | exact HR0.out | (with_reducible refine Kd.C_alloc ?_ _) | (with_reducible refine Kd.C_drewN ?_ _) | (with_reducible refine Kd.C_drew ?_))); (case side2 => exact HC0.out); rintro e w' ⟨rfl, ⟨nd, rfl⟩⟩; refine ⟨_, rfl, ?_⟩) | ((with_reducible refine gate_callee (f := 42) rfl ?_); refine goesL_ (some 7) rfl rfl Tryd.func42 (by kernel_rfl) rfl #[.slice A0 l0.length c0] rfl (by (try simp only [List.map_toArray, List.map_cons, List.map_nil]); first | done | rfl | (simp only [List.length_drop, List.length_take]; rfl)) ?_; (with_reducible refine (drumlineref1_Copy.calls _ _ l0 t221 _ ?side1 ?side2 A3.out).mono ?_); (case side1 => repeat (first | exact HR0.out | (with_reducible refine Kd.C_alloc ?_ _) | (with_reducible refine Kd.C_drewN ?_ _) | (with_reducible refine Kd.C_drew ?_))); (case side2 => exact HC0.out); rintro e w5 ⟨v222, rfl, ho0, hb⟩; refine ⟨_, rfl, ?_⟩; have n0_ := Aside0.mk (Kd.R_lower ho0 (below_size (by repeat (first | (with_reducible first | exact HB.out | apply below_alloc | apply pw_below_drewN | apply below_drew1) | exact HB.out)))); have n1_ := Aside0.mk (below_step (by repeat (first | (with_reducible first | exact HB.out | apply below_alloc | apply pw_below_drewN | apply below_drew1) | exact HB.out)) hb); clear HB; have HO223 := n0_; have HB := n1_; clear n0_ n1_; (try clear hb); (try clear hb2); (try clear hk); (try clear hi); (try clear ho0)) | ((with_reducible refine gate_dst (N := 19) rfl ?_); refine Kd.R_lit (Kd.int .u8) _ 5 ?hg (N := 19) ?hd (xs := ([(t220 / 16777216) % 256, (t220 / 65536) % 256, (t220 / 256) % 256, (t220) % 256] : List Int)) (inner := [.int .u8 ((t220 / 16777216) % 256), .int .u8 ((t220 / 65536) % 256), .int .u8 ((t220 / 256) % 256), .int .u8 ((t220) % 256)]) (ok := fun _ => True) (okp := fun _ => True) ?hr ?hp (fun _ hk => hk) trivial (Below.refl _ _) (Nat.le_refl _) (by simp) ?_; (case hd => rfl); (case hg => rfl); (case hr => first | (go_simp; done) | (go_simp; rfl)); (case hp => exact (Reps.one (show Kd.M (Kd.int .u8) _ _ _ ((t220 / 16777216) % 256) [.int .u8 ((t220 / 16777216) % 256)] from rfl) (Reps.one (show Kd.M (Kd.int .u8) _ _ _ ((t220 / 65536) % 256) [.int .u8 ((t220 / 65536) % 256)] from rfl) (Reps.one (show Kd.M (Kd.int .u8) _ _ _ ((t220 / 256) % 256) [.int .u8 ((t220 / 256) % 256)] from rfl) (Reps.one (show Kd.M (Kd.int .u8) _ _ _ ((t220) % 256) [.int .u8 ((t220) % 256)] from rfl) (Reps.none _ _)))))); intro v225 w6 ho7 hb hg_ hnew_; clear hg_ hnew_; (first | rw [← Ny224.out] at ho7 | (simp only [Int.reduceToNat] at ho7; rw [← Ny224.out] at ho7)); have n0_ := Aside0.mk (Kd.R_elder' (by (with_reducible repeat (first | apply Kd.R_alloc | apply Kd.R_drewN | apply Kd.R_drew)); exact HO223.out) (Kd.R_base ho7) hb); have n1_ := Aside0.mk (Kd.R_lower (Kd.R_new' ho7 (Kd.R_lt (by (with_reducible repeat (first | apply Kd.R_alloc | apply Kd.R_drewN | apply Kd.R_drew)); exact HO223.out))) (below_size (by repeat (first | (with_reducible first | exact HB.out | apply below_alloc | apply pw_below_drewN | apply below_drew1) | exact HB.out)))); have n2_ := Aside0.mk (below_step (by repeat (first | (with_reducible first | exact HB.out | apply below_alloc | apply pw_below_drewN | apply below_drew1) | exact HB.out)) hb); clear HO223; clear HB; have HO223 := n0_; have HO226 := n1_; have HB := n2_; clear n0_ n1_ n2_; clear hb ho7; obtain ⟨Ao9, co9, eo9⟩ := Kd.R_slice HO226.out; subst eo9) | ((with_reducible refine gate_builtin (b := .append) (xs := #[.tmp 7, .tmp 19]) rfl ?_); at_builtin; refine Kd.R_append_rows (Kd.int .u8) (w0 := w) w.heap.size rfl (.tmp 7) (.tmp 19) 23 5 (.int .u8 0) 1 rfl Tryd.underlying23 info5 rfl (by decide) (by omega) v222 t221 y224 _ _ _ (fun k_ => some k_ ≠ (.slice Ao9 y224.length co9 : Value).ownBlock) (fun _ => False) rfl rfl ?aO ?aR (fun _ _ h => h) (fun _ h => h.elim) ?aF ?aB ?aS ?aL ?_; (case aR => repeat (first | exact (Kd.R_reads' HO226.out).2.2 | (with_reducible refine Kd.C_alloc ?_ _) | (with_reducible refine Kd.C_drewN ?_ _) | (with_reducible refine Kd.C_drew ?_))); (case aB => exact (by repeat (first | (with_reducible first | exact HB.out | apply below_alloc | apply pw_below_drewN | apply below_drew1) | exact HB.out))); (case aF => exact (fun k_ hk => Kd.fresh' (Kd.R_lt (by (with_reducible repeat (first | apply Kd.R_alloc | apply Kd.R_drewN | apply Kd.R_drew)); exact HO226.out)) k_ hk)); (case aO => exact (by (with_reducible repeat (first | apply Kd.R_alloc | apply Kd.R_drewN | apply Kd.R_drew)); exact Kd.R_mono HO223.out (fun _ hk => hk.2))); (case aS => exact (below_size (by repeat (first | (with_reducible first | exact HB.out | apply below_alloc | apply pw_below_drewN | apply below_drew1) | exact HB.out)))); (case aL => have := LMc4.out; omega); intro v228 w8 ho hb hg hat; rw [← Ny227.out] at ho; have n0_ := Aside0.mk (Kd.R_after (ok := (fun _ => True)) (by (with_reducible repeat (first | apply Kd.R_alloc | apply Kd.R_drewN | apply Kd.R_drew)); exact HO226.out) hg hat); have n1_ := Aside0.mk (hb); have n2_ := Aside0.mk (ho); clear HO226; clear HB; clear HO223; have HO226 := n0_; have HB := n1_; have HO229 := n2_; clear n0_ n1_ n2_; clear ho hb hg hat))
  go_ret
  exact ⟨_, by first | rfl | (simp [errW_none, errW_some] <;> rfl) | (simp [*, errW_none, errW_some] <;> rfl), by (with_reducible repeat (first | apply Kd.R_alloc | apply Kd.R_drewN | apply Kd.R_drew)); exact Kd.R_mono HO229.out (fun _ hk => trivial), by repeat (first | (with_reducible first | exact HB.out | apply below_alloc | apply pw_below_drewN | apply below_drew1) | exact HB.out)⟩
 ·rw [if_neg c4] at H
  exact absurd H (by simp)
end Go.Proofs.YtaaifdclojkdmaaDoor.MFr
set_option linter.unusedSimpArgs false
set_option linter.unusedVariables false
namespace Go.Proofs.YtaaifdclojkdmaaDoor.Sum
def stp (x : BitVec 32) : BitVec 32 := (x <<< 1) ^^^ (if x.msb then 0x04c11db7#32 else 0#32)
theorem stp_xor (x y : BitVec 32) : stp (x ^^^ y) = stp x ^^^ stp y := by
  unfold stp
  rw [BitVec.shiftLeft_xor_distrib, BitVec.msb_xor]
  generalize x <<< 1 = a
  generalize y <<< 1 = b
  have c : (0x04c11db7#32 ^^^ 0x04c11db7#32 : BitVec 32) = 0#32 := by decide
  have d : a ^^^ 0x04c11db7#32 ^^^ (b ^^^ 0x04c11db7#32) = (a ^^^ b) ^^^ (0x04c11db7#32 ^^^ 0x04c11db7#32) := by ac_rfl
  cases x.msb <;> cases y.msb
  · simp
  · simp only [Bool.xor_true, Bool.not_false, Bool.false_eq_true, if_true, if_false, BitVec.xor_zero]; ac_rfl
  · simp only [Bool.xor_false, Bool.false_eq_true, if_true, if_false, BitVec.xor_zero]; ac_rfl
  · simp only [Bool.xor_true, Bool.not_true, Bool.false_eq_true, if_true, if_false]
    rw [d, c]
theorem stp_zero : stp 0#32 = 0#32 := by decide
theorem stp_inj {x : BitVec 32} (h : stp x = 0#32) : x = 0#32 := by
  have h0 : (stp x).getLsbD 0 = x.msb := by
    unfold stp
    rw [BitVec.getLsbD_xor]
    cases x.msb <;> simp
  have hm : x.msb = false := by rw [← h0, h]; simp
  unfold stp at h
  rw [hm] at h
  simp only [Bool.false_eq_true, if_false, BitVec.xor_zero] at h
  apply BitVec.eq_of_getLsbD_eq
  intro i hi
  by_cases e : i = 31
  · subst e
    rw [BitVec.msb_eq_getLsbD_last] at hm
    simpa using hm
  · have h2 := congrArg (fun b : BitVec 32 => b.getLsbD (i + 1)) h
    simp only [BitVec.getLsbD_shiftLeft, BitVec.getLsbD_zero] at h2
    have h3 : i + 1 < 32 := by omega
    simp [h3] at h2
    simp [h2]
def st8 (x : BitVec 32) : BitVec 32 := stp (stp (stp (stp (stp (stp (stp (stp x)))))))
theorem st8_xor (x y : BitVec 32) : st8 (x ^^^ y) = st8 x ^^^ st8 y := by unfold st8; simp only [stp_xor]
def top (c : BitVec 8) : BitVec 32 := (c.zeroExtend 32) <<< 24
theorem top_xor (c d : BitVec 8) : top (c ^^^ d) = top c ^^^ top d := by
  unfold top
  simp [BitVec.shiftLeft_xor_distrib]
def run (r : BitVec 32) (l : List (BitVec 8)) : BitVec 32 := l.foldl (fun r c => st8 (r ^^^ top c)) r
theorem run_cons (r : BitVec 32) (c : BitVec 8) (l : List (BitVec 8)) : run r (c :: l) = run (st8 (r ^^^ top c)) l := rfl
theorem run_append (r : BitVec 32) (l m : List (BitVec 8)) : run r (l ++ m) = run (run r l) m := by simp [run]
def more (s : BitVec 32) (l : List (BitVec 8)) : BitVec 32 := ~~~ (run (~~~ s) l)
def mix (l m : List (BitVec 8)) : List (BitVec 8) := List.zipWith (· ^^^ ·) l m
theorem xor_swap (a b c d : BitVec 32) : a ^^^ b ^^^ (c ^^^ d) = (a ^^^ c) ^^^ (b ^^^ d) := by ac_rfl
theorem mix_cons (c d : BitVec 8) (l m : List (BitVec 8)) : mix (c :: l) (d :: m) = (c ^^^ d) :: mix l m := rfl
theorem run_mix (l : List (BitVec 8)) : ∀ (m : List (BitVec 8)) (r q : BitVec 32), l.length = m.length → run (r ^^^ q) (mix l m) = run r l ^^^ run q m := by
  induction l with
  | nil =>
    intro m r q h
    cases m with
    | nil => rfl
    | cons d m => exact absurd h (by simp)
  | cons c l ih =>
    intro m r q h
    cases m with
    | nil => exact absurd h (by simp)
    | cons d m =>
      rw [mix_cons, run_cons, run_cons, run_cons, top_xor, xor_swap, st8_xor]
      generalize st8 (r ^^^ top c) = u
      generalize st8 (q ^^^ top d) = v
      exact ih m u v (Nat.succ.inj h)
def msk : BitVec 32 := 0x80000000#32
def bit1 (r : BitVec 32) (b : Bool) : BitVec 32 := stp (r ^^^ (if b then msk else 0#32))
def bits (c : BitVec 8) : List Bool := [c.getLsbD 7, c.getLsbD 6, c.getLsbD 5, c.getLsbD 4, c.getLsbD 3, c.getLsbD 2, c.getLsbD 1, c.getLsbD 0]
def brun (r : BitVec 32) (l : List Bool) : BitVec 32 := l.foldl bit1 r
theorem bit1_xor (r q : BitVec 32) (b : Bool) : bit1 (r ^^^ q) b = stp r ^^^ bit1 q b := by
  unfold bit1
  rw [BitVec.xor_assoc, stp_xor]
def stpn : Nat → BitVec 32 → BitVec 32
  | 0, x => x
  | n + 1, x => stpn n (stp x)
theorem stpn_inj : ∀ (n : Nat) {x : BitVec 32}, stpn n x = 0#32 → x = 0#32
  | 0, _, h => h
  | n + 1, _, h => stp_inj (stpn_inj n h)
theorem stpn_zero : ∀ n : Nat, stpn n 0#32 = 0#32
  | 0 => rfl
  | n + 1 => by simp only [stpn, stp_zero, stpn_zero n]
theorem brun_xor : ∀ (l : List Bool) (r q : BitVec 32), brun (r ^^^ q) l = stpn l.length r ^^^ brun q l
  | [], r, q => rfl
  | b :: l, r, q => by
    show brun (bit1 (r ^^^ q) b) l = stpn l.length (stp r) ^^^ brun (bit1 q b) l
    rw [bit1_xor, brun_xor l]
theorem byte_all : ∀ c : Fin 256, st8 (top (BitVec.ofFin c)) = brun 0#32 (bits (BitVec.ofFin c)) := by decide +kernel
theorem byte_bits (r : BitVec 32) (c : BitVec 8) : st8 (r ^^^ top c) = brun r (bits c) := by
  have h := byte_all c.toFin
  have e : BitVec.ofFin c.toFin = c := rfl
  rw [e] at h
  have h2 := brun_xor (bits c) r 0#32
  rw [BitVec.xor_zero] at h2
  rw [h2, st8_xor, h]
  rfl
theorem run_bits : ∀ (l : List (BitVec 8)) (r : BitVec 32), run r l = brun r (l.flatMap bits)
  | [], _ => rfl
  | c :: l, r => by
    rw [run_cons, List.flatMap_cons, byte_bits, run_bits l]
    simp [brun]
theorem brun_none : ∀ (l : List Bool) (r : BitVec 32), (∀ b ∈ l, b = false) → brun r l = stpn l.length r
  | [], _, _ => rfl
  | b :: l, r, h => by
    have hb : b = false := h b (by simp)
    subst hb
    show brun (bit1 r false) l = stpn l.length (stp r)
    rw [brun_none l _ (fun x hx => h x (by simp [hx]))]
    simp [bit1]
def word : List Bool → BitVec 32
  | [] => 0#32
  | b :: l => (if b then msk else 0#32) ^^^ (word l >>> 1)
theorem word_low : ∀ (l : List Bool) (j : Nat), j + l.length < 32 → (word l).getLsbD j = false
  | [], j, _ => by simp [word]
  | b :: l, j, h => by
    have hl : (b :: l).length = l.length + 1 := rfl
    have h1 := word_low l (j + 1) (by omega)
    have h2 : msk.getLsbD j = false := by
      have : ∀ i : Fin 31, msk.getLsbD i.val = false := by decide
      exact this ⟨j, by omega⟩
    unfold word
    rw [BitVec.getLsbD_xor, BitVec.getLsbD_ushiftRight, Nat.add_comm 1 j, h1]
    cases b
    · simp
    · simp [h2]
theorem stp_half {x : BitVec 32} (h : x.getLsbD 0 = false) : stp (x >>> 1) = x := by
  have hm : (x >>> 1).msb = false := by rw [BitVec.msb_ushiftRight]; simp
  unfold stp
  rw [hm]
  simp only [Bool.false_eq_true, if_false, BitVec.xor_zero]
  apply BitVec.eq_of_getLsbD_eq
  intro i hi
  rw [BitVec.getLsbD_shiftLeft]
  by_cases e : i = 0
  · subst e; rw [h]; simp
  · rw [BitVec.getLsbD_ushiftRight]
    have : 1 + (i - 1) = i := by omega
    rw [this]
    simp [hi]
    intro h0
    omega
theorem brun_word : ∀ (l : List Bool) (r : BitVec 32), l.length ≤ 32 → brun r l = stpn l.length (r ^^^ word l)
  | [], r, _ => by simp [brun, stpn, word]
  | b :: l, r, h => by
    have hl : (b :: l).length = l.length + 1 := rfl
    show brun (bit1 r b) l = stpn l.length (stp (r ^^^ ((if b then msk else 0#32) ^^^ (word l >>> 1))))
    rw [brun_word l _ (by omega)]
    congr 1
    rw [← BitVec.xor_assoc, stp_xor, stp_half (word_low l 0 (by omega))]
    rfl
theorem word_zero : ∀ (l : List Bool), l.length ≤ 32 → word l = 0#32 → ∀ b ∈ l, b = false
  | [], _, _ => by simp
  | b :: l, h, e => by
    have hl : (b :: l).length = l.length + 1 := rfl
    have hlow := word_low l 0 (by omega)
    have hb : b = false := by
      have := congrArg (fun w : BitVec 32 => w.getLsbD 31) e
      unfold word at this
      simp only [BitVec.getLsbD_xor, BitVec.getLsbD_ushiftRight, BitVec.getLsbD_zero] at this
      have h2 : (word l).getLsbD (1 + 31) = false := BitVec.getLsbD_of_ge _ _ (by omega)
      rw [h2] at this
      cases b
      · rfl
      · simp [msk] at this
    subst hb
    have hw : word l = 0#32 := by
      unfold word at e
      simp only [Bool.false_eq_true, if_false, BitVec.zero_xor] at e
      have := stp_half hlow
      rw [e, stp_zero] at this
      exact this.symm
    intro b hb
    rcases List.mem_cons.1 hb with rfl | hb
    · rfl
    · exact word_zero l (by omega) hw b hb
theorem burst (l : List Bool) (at_ : Nat) (h : ∀ i, (i < at_ ∨ at_ + 32 ≤ i) → l.getD i false = false) (e : brun 0#32 l = 0#32) : ∀ b ∈ l, b = false := by
  have hsplit : l = l.take at_ ++ ((l.drop at_).take 32 ++ (l.drop at_).drop 32) := by rw [List.take_append_drop, List.take_append_drop]
  have h1 : ∀ b ∈ l.take at_, b = false := by
    intro b hb
    obtain ⟨i, hi⟩ := List.mem_iff_getElem?.1 hb
    have hlt := (List.getElem?_eq_some_iff.1 hi).1
    rw [List.length_take] at hlt
    rw [List.getElem?_take_of_lt (by omega)] at hi
    have := h i (by omega)
    rw [List.getD_eq_getElem?_getD, hi] at this
    exact this
  have h3 : ∀ b ∈ (l.drop at_).drop 32, b = false := by
    intro b hb
    obtain ⟨i, hi⟩ := List.mem_iff_getElem?.1 hb
    rw [List.getElem?_drop, List.getElem?_drop] at hi
    have := h (at_ + (32 + i)) (by omega)
    rw [List.getD_eq_getElem?_getD, hi] at this
    exact this
  have e2 : brun 0#32 l = stpn ((l.drop at_).drop 32).length (brun 0#32 ((l.drop at_).take 32)) := by
    conv => lhs; rw [hsplit]
    show List.foldl _ _ _ = _
    rw [List.foldl_append, List.foldl_append]
    show brun (brun (brun 0#32 (l.take at_)) ((l.drop at_).take 32)) ((l.drop at_).drop 32) = _
    rw [brun_none _ _ h3, brun_none _ _ h1, stpn_zero]
  have hlen : ((l.drop at_).take 32).length ≤ 32 := by rw [List.length_take]; omega
  have h2 : ∀ b ∈ (l.drop at_).take 32, b = false := by
    refine word_zero _ hlen ?_
    have := stpn_inj _ (e2.symm.trans e)
    rw [brun_word _ _ hlen, BitVec.zero_xor] at this
    exact stpn_inj _ this
  intro b hb
  rw [hsplit] at hb
  rcases List.mem_append.1 hb with hb | hb
  · exact h1 b hb
  · rcases List.mem_append.1 hb with hb | hb
    · exact h2 b hb
    · exact h3 b hb
def bytes (r : BitVec 32) : List (BitVec 8) := [(r >>> 24).truncate 8, (r >>> 16).truncate 8, (r >>> 8).truncate 8, r.truncate 8]
def bitAt (l : List (BitVec 8)) (i : Nat) : Bool := (l.flatMap bits).getD i false
theorem flat_length (l : List (BitVec 8)) : (l.flatMap bits).length = 8 * l.length := by
  induction l with
  | nil => rfl
  | cons c l ih => rw [List.flatMap_cons, List.length_append, ih]; simp [bits]; omega
theorem mix_bits : ∀ (l m : List (BitVec 8)), l.length = m.length → (mix l m).flatMap bits = List.zipWith xor (l.flatMap bits) (m.flatMap bits)
  | [], [], _ => rfl
  | c :: l, d :: m, h => by
    show bits (c ^^^ d) ++ (mix l m).flatMap bits = List.zipWith xor (bits c ++ l.flatMap bits) (bits d ++ m.flatMap bits)
    rw [List.zipWith_append (by simp [bits]), mix_bits l m (by simpa using h)]
    congr 1
    simp [bits]
theorem bitAt_mix {l m : List (BitVec 8)} (h : l.length = m.length) (i : Nat) : bitAt (mix l m) i = xor (bitAt l i) (bitAt m i) := by
  unfold bitAt
  rw [mix_bits l m h, List.getD_eq_getElem?_getD, List.getD_eq_getElem?_getD, List.getD_eq_getElem?_getD, List.getElem?_zipWith]
  have e : (l.flatMap bits).length = (m.flatMap bits).length := by rw [flat_length, flat_length, h]
  by_cases hi : i < (l.flatMap bits).length
  · rw [List.getElem?_eq_getElem hi, List.getElem?_eq_getElem (by omega)]; rfl
  · rw [List.getElem?_eq_none (by omega), List.getElem?_eq_none (by omega)]; rfl
theorem bits_zero {c : BitVec 8} (h : ∀ b ∈ bits c, b = false) : c = 0#8 := by
  have : ∀ c : Fin 256, (∀ b ∈ bits (BitVec.ofFin c), b = false) → BitVec.ofFin c = 0#8 := by decide +kernel
  exact this c.toFin h
theorem mix_same : ∀ (l m : List (BitVec 8)), l.length = m.length → (∀ b ∈ (mix l m).flatMap bits, b = false) → l = m
  | [], [], _, _ => rfl
  | c :: l, d :: m, h, hb => by
    have h1 : c ^^^ d = 0#8 := bits_zero (fun b hb' => hb b (by
      show b ∈ bits (c ^^^ d) ++ (mix l m).flatMap bits
      exact List.mem_append_left _ hb'))
    have h2 := mix_same l m (by simpa using h) (fun b hb' => hb b (by
      show b ∈ bits (c ^^^ d) ++ (mix l m).flatMap bits
      exact List.mem_append_right _ hb'))
    rw [h2, BitVec.xor_eq_zero_iff.1 h1]
theorem burst_mix {l m : List (BitVec 8)} {at_ : Nat} (hl : l.length = m.length) (h : ∀ i, (i < at_ ∨ at_ + 32 ≤ i) → bitAt l i = bitAt m i) (e : run 0#32 (mix l m) = 0#32) : l = m := by
  refine mix_same l m hl (burst _ at_ (fun i hi => ?_) (by rw [← run_bits]; exact e))
  have := bitAt_mix hl i
  rw [h i hi] at this
  simpa [bitAt] using this
theorem run_bytes (r : BitVec 32) : run r (bytes r) = 0#32 := by
  have lin : ∀ x y : BitVec 32, run (x ^^^ y) (bytes (x ^^^ y)) = run x (bytes x) ^^^ run y (bytes y) := by
    intro x y
    have e : bytes (x ^^^ y) = mix (bytes x) (bytes y) := by
      simp [bytes, mix, BitVec.ushiftRight_xor_distrib]
    rw [e]
    exact run_mix _ _ _ _ rfl
  have one : ∀ i : Fin 32, run (BitVec.twoPow 32 i.val) (bytes (BitVec.twoPow 32 i.val)) = 0#32 := by decide +kernel
  have zero : run 0#32 (bytes 0#32) = 0#32 := by decide +kernel
  -- the bits below k
  have low : ∀ k : Nat, k ≤ 32 → run (r &&& (BitVec.ofNat 32 (2 ^ k - 1))) (bytes (r &&& (BitVec.ofNat 32 (2 ^ k - 1)))) = 0#32 := by
    intro k
    induction k with
    | zero => intro _; simpa using zero
    | succ k ih =>
      intro hk
      have e : r &&& BitVec.ofNat 32 (2 ^ (k + 1) - 1) = (r &&& BitVec.ofNat 32 (2 ^ k - 1)) ^^^ (if r.getLsbD k then BitVec.twoPow 32 k else 0#32) := by
        apply BitVec.eq_of_getLsbD_eq
        intro i hi
        rw [BitVec.getLsbD_and, BitVec.getLsbD_xor, BitVec.getLsbD_and, BitVec.getLsbD_ofNat, BitVec.getLsbD_ofNat, Nat.testBit_two_pow_sub_one, Nat.testBit_two_pow_sub_one]
        by_cases e1 : i = k
        · subst e1
          cases hr : r.getLsbD i <;> simp [BitVec.getLsbD_twoPow, hi]
        · have e2 : (if r.getLsbD k then BitVec.twoPow 32 k else 0#32).getLsbD i = false := by
            split
            · rw [BitVec.getLsbD_twoPow]; simp; omega
            · simp
          rw [e2]
          have e3 : decide (i < k + 1) = decide (i < k) := by rw [decide_eq_decide]; omega
          rw [e3]; simp
      rw [e, lin, ih (by omega), BitVec.zero_xor]
      split
      · exact one ⟨k, by omega⟩
      · exact zero
  have := low 32 (Nat.le_refl _)
  have e : r &&& BitVec.ofNat 32 (2 ^ 32 - 1) = r := by
    have : (BitVec.ofNat 32 (2 ^ 32 - 1)) = BitVec.allOnes 32 := by decide
    rw [this]; exact BitVec.and_allOnes
  rwa [e] at this
theorem burst_sealed {b d : List (BitVec 8)} {at_ : Nat} (hl : b.length = d.length) (h : ∀ i, (i < at_ ∨ at_ + 32 ≤ i) → bitAt (b ++ bytes (more 0#32 b)) i = bitAt (d ++ bytes (more 0#32 d)) i) :
    b ++ bytes (more 0#32 b) = d ++ bytes (more 0#32 d) := by
  refine burst_mix (at_ := at_) (by simp [hl, bytes]) h ?_
  have e1 : mix (b ++ bytes (more 0#32 b)) (d ++ bytes (more 0#32 d)) = mix b d ++ mix (bytes (more 0#32 b)) (bytes (more 0#32 d)) := List.zipWith_append hl
  have e2 : mix (bytes (more 0#32 b)) (bytes (more 0#32 d)) = bytes (more 0#32 b ^^^ more 0#32 d) := by
    simp [bytes, mix, BitVec.ushiftRight_xor_distrib]
  have e3 : more 0#32 b ^^^ more 0#32 d = run 0#32 (mix b d) := by
    have := run_mix b d (~~~ 0#32) (~~~ 0#32) hl
    rw [BitVec.xor_self] at this
    rw [this]
    unfold more
    generalize run (~~~ 0#32) b = x
    generalize run (~~~ 0#32) d = y
    simp only [← BitVec.allOnes_xor]
    calc BitVec.allOnes 32 ^^^ x ^^^ (BitVec.allOnes 32 ^^^ y) = (BitVec.allOnes 32 ^^^ BitVec.allOnes 32) ^^^ (x ^^^ y) := by ac_rfl
      _ = x ^^^ y := by rw [BitVec.xor_self, BitVec.zero_xor]
  rw [e1, run_append, e2, e3]
  exact run_bytes _
end Go.Proofs.YtaaifdclojkdmaaDoor.Sum
set_option linter.unusedVariables false
set_option linter.unusedSimpArgs false
namespace Go.Proofs.YtaaifdclojkdmaaDoor.PSum
open Go.RowKit Go.Proofs.YtaaifdclojkdmaaDoor.MFr Go.Proofs.YtaaifdclojkdmaaDoorW.PrintWords Go.Proofs.YtaaifdclojkdmaaDoorW.PrintLast Go.Proofs.YtaaifdclojkdmaaDoorW.PrintMore Go.Proofs.YtaaifdclojkdmaaDoor.Wire Go.Proofs.YtaaifdclojkdmaaDoor.Evl Go.Proofs.YtaaifdclojkdmaaDoor.Sum
def V (x : BitVec 32) : Int := (x.toNat : Int)
def byt (x : Int) : BitVec 8 := BitVec.ofNat 8 x.toNat
def L (l : List Int) : List (BitVec 8) := l.map byt
theorem V_lt (x : BitVec 32) : 0 ≤ V x ∧ V x < 4294967296 := by
 have := x.isLt
 unfold V; omega
theorem byt_nat {x : Int} (h0 : 0 ≤ x) (h1 : x ≤ 255) : ((byt x).toNat : Int) = x := by
 unfold byt
 rw [BitVec.toNat_ofNat]
 omega
theorem byt_inj {x y : Int} (h0 : 0 ≤ x) (h1 : x ≤ 255) (g0 : 0 ≤ y) (g1 : y ≤ 255) (h : byt x = byt y) : x = y := by
 rw [← byt_nat h0 h1, ← byt_nat g0 g1, h]
theorem L_inj : ∀ {l m : List Int}, Bys l → Bys m → L l = L m → l = m
 | [], [], _, _, _ => rfl
 | [], _ :: _, _, _, h => by simp [L] at h
 | _ :: _, [], _, _, h => by simp [L] at h
 | x :: l, y :: m, hl, hm, h => by
  simp only [L, List.map_cons, List.cons.injEq] at h
  have a := hl x (by simp)
  have b := hm y (by simp)
  rw [byt_inj a.1 a.2 b.1 b.2 h.1, L_inj (fun z hz => hl z (by simp [hz])) (fun z hz => hm z (by simp [hz])) h.2]
theorem L_length (l : List Int) : (L l).length = l.length := by simp [L]
theorem L_append (l m : List Int) : L (l ++ m) = L l ++ L m := by simp [L]
theorem xor_V (x y : BitVec 32) : Go.bits .xor .u32 (V x) (V y) = V (x ^^^ y) := by
 unfold V
 rw [u32_xor_nat _ _ x.isLt y.isLt, BitVec.toNat_xor]
theorem not_V (x : BitVec 32) : Go.bits .xor .u32 4294967295 (V x) = V (~~~ x) := by
 have e : (4294967295 : Int) = V (BitVec.allOnes 32) := rfl
 rw [e, xor_V, BitVec.allOnes_xor]
theorem dbl_V (x : BitVec 32) : (V x * (2 : Int)) % (4294967296 : Int) = V (x <<< (1 : Nat)) := by
 unfold V
 rw [BitVec.toNat_shiftLeft, Nat.shiftLeft_eq]
 omega
theorem poly_V : (79764919 : Int) = V 0x04c11db7#32 := rfl
theorem msb_nat (x : BitVec 32) : x.msb = decide (2147483648 ≤ x.toNat) := by
 rw [BitVec.msb_eq_decide]
theorem and_V (x : BitVec 32) : (Go.bits .and .u32 (V x) 2147483648 = 0) ↔ x.msb = false := by
 have h : Go.bits .and .u32 (V x) 2147483648 = ((x.toNat &&& 2 ^ 31 : Nat) : Int) := u32_and_nat _ _ x.isLt (by decide)
 rw [h, BitVec.msb_eq_getLsbD_last]
 show _ ↔ x.toNat.testBit 31 = false
 constructor
 ·intro e
  have e' : x.toNat &&& 2 ^ 31 = 0 := by omega
  have := congrArg (fun n => n.testBit 31) e'
  simpa [Nat.testBit_and, show Nat.testBit 2147483648 31 = true by decide] using this
 ·intro e
  have : x.toNat &&& 2 ^ 31 = 0 := by
   apply Nat.eq_of_testBit_eq
   intro i
   rw [Nat.testBit_and, Nat.testBit_two_pow, Nat.zero_testBit]
   by_cases hi : 31 = i
   ·subst hi; rw [e]; rfl
   ·simp [hi]
  omega
theorem stp_V0 {x : BitVec 32} (h : x.msb = false) : (V x * 2) % 4294967296 = V (stp x) := by
 unfold stp
 rw [h, dbl_V]
 simp
theorem stp_V1 {x : BitVec 32} (h : x.msb = true) : Go.bits .xor .u32 ((V x * 2) % 4294967296) 79764919 = V (stp x) := by
 unfold stp
 rw [h, dbl_V, poly_V, xor_V]
 rfl
theorem top_V {c : Int} (h0 : 0 ≤ c) (h1 : c ≤ 255) : ((c % 4294967296) * 16777216) % 4294967296 = V (top (byt c)) := by
 unfold V top
 rw [BitVec.toNat_shiftLeft, BitVec.toNat_setWidth, Nat.shiftLeft_eq]
 have := byt_nat h0 h1
 have h2 : (byt c).toNat < 256 := (byt c).isLt
 have h3 : (byt c).toNat % 2 ^ 32 = (byt c).toNat := Nat.mod_eq_of_lt (by omega)
 rw [h3]
 omega
theorem step_loop (d : Nat) : ∀ (i : Int) (x : BitVec 32), 0 ≤ i → i + d = 8 → Evl (fun k => sum_step.l0 k (V x) i) (V (stpn d x)) := by
 induction d with
 | zero =>
  intro i x h0 h1
  refine Evl.stop (fun k => ?_)
  simp only [sum_step.l0, stpn]
  rw [if_neg (by omega)]
 | succ d ih =>
  intro i x h0 h1
  refine Evl.step (fun k => ?_) (ih (i + 1) (stp x) (by omega) (by omega))
  simp only [sum_step.l0]
  rw [if_pos (by omega), w64 (x := i + 1) (by omega) (by omega)]
  cases hm : x.msb with
  | false => rw [if_pos ((and_V x).2 hm), stp_V0 hm]
  | true => rw [if_neg (by rw [and_V, hm]; simp), stp_V1 hm]
theorem step_evl (x : BitVec 32) : Evl (fun k => sum_step.f k (V x)) (V (st8 x)) := step_loop 8 0 x (by omega) (by omega)
theorem more_loop {l : List Int} (hb : Bys l) (hl : l.length ≤ 100000) (d : Nat) : ∀ (i : Int) (x : BitVec 32), 0 ≤ i → i + d = l.length → Evl (fun k => sum_More.l0 k (V x) l (l.length : Int) i) (V (~~~ (run x (L (l.drop i.toNat))))) := by
 induction d with
 | zero =>
  intro i x h0 h1
  refine Evl.stop (fun k => ?_)
  simp only [sum_More.l0]
  rw [if_neg (by omega), List.drop_eq_nil_of_le (by omega), not_V]
  rfl
 | succ d ih =>
  intro i x h0 h1
  have e : l.drop i.toNat = rd l i :: l.drop (i + 1).toNat := by
   rw [List.drop_eq_getElem_cons (by omega), show (i + 1).toNat = i.toNat + 1 by omega]
   unfold rd
   simp [List.getD_eq_getElem?_getD, List.getElem?_eq_getElem (show i.toNat < l.length by omega)]
  have hc := hb (rd l i) (by
   unfold rd
   rw [List.getD_eq_getElem?_getD, List.getElem?_eq_getElem (by omega)]
   simp)
  refine Evl.succ ?_
  simp only [sum_More.l0, if_pos (show i < (l.length : Int) by omega), if_pos h0]
  rw [top_V hc.1 hc.2, xor_V, w64 (x := i + 1) (by omega) (by omega)]
  refine Evl.bind (step_evl _) ?_
  have := ih (i + 1) (st8 (x ^^^ top (byt (rd l i)))) (by omega) (by omega)
  rw [e]
  exact this
theorem more_evl {l : List Int} (hb : Bys l) (hl : l.length ≤ 100000) (s : BitVec 32) : Evl (fun k => sum_More.f k (V s) l) (V (more s (L l))) := by
 unfold sum_More.f
 rw [not_V]
 exact more_loop hb hl l.length 0 (~~~ s) (by omega) (by omega)
theorem of_evl {l : List Int} (hb : Bys l) (hl : l.length ≤ 100000) : Evl (fun k => sum_Of.f k l) (V (more 0#32 (L l))) := by
 unfold sum_Of.f
 exact Evl.bind (more_evl hb hl 0#32) (Evl.now fun _ => rfl)
def sb (r : BitVec 32) : List Int := [(V r / 16777216) % 256, (V r / 65536) % 256, (V r / 256) % 256, V r % 256]
theorem sb_bys (r : BitVec 32) : Bys (sb r) := by
 intro x hx
 simp only [sb, List.mem_cons, List.not_mem_nil, or_false] at hx
 omega
theorem byt_of {x : Int} {c : BitVec 8} (h : x = (c.toNat : Int)) : byt x = c := by
 subst h
 unfold byt
 simp
theorem L_sb (r : BitVec 32) : L (sb r) = Sum.bytes r := by
 have h := r.isLt
 simp only [L, sb, Sum.bytes, List.map_cons, List.map_nil, List.cons.injEq, and_true]
 refine ⟨byt_of ?_, byt_of ?_, byt_of ?_, byt_of ?_⟩
 ·simp only [BitVec.truncate_eq_setWidth, BitVec.toNat_setWidth, BitVec.toNat_ushiftRight, Nat.shiftRight_eq_div_pow, V]; omega
 ·simp only [BitVec.truncate_eq_setWidth, BitVec.toNat_setWidth, BitVec.toNat_ushiftRight, Nat.shiftRight_eq_div_pow, V]; omega
 ·simp only [BitVec.truncate_eq_setWidth, BitVec.toNat_setWidth, BitVec.toNat_ushiftRight, Nat.shiftRight_eq_div_pow, V]; omega
 ·simp only [BitVec.truncate_eq_setWidth, BitVec.toNat_setWidth, V]; omega
def sld (l : List Int) : List Int := l ++ sb (more 0#32 (L l))
theorem sld_length (l : List Int) : (sld l).length = l.length + 4 := by simp [sld, sb]
theorem bys_append {l m : List Int} (hl : Bys l) (hm : Bys m) : Bys (l ++ m) := by
 intro x hx
 rcases List.mem_append.1 hx with h | h
 ·exact hl x h
 ·exact hm x h
theorem sld_bys {l : List Int} (hb : Bys l) : Bys (sld l) := bys_append hb (sb_bys _)
theorem bys_take {l : List Int} (hb : Bys l) (n : Nat) : Bys (l.take n) := fun x hx => hb x (List.mem_of_mem_take hx)
theorem seal_evl {l : List Int} (hb : Bys l) (hl : l.length ≤ 100000) : Evl (fun k => sum_Seal.f k l) (sld l) := by
 unfold sum_Seal.f
 refine Evl.bind (of_evl hb hl) (Evl.now fun _ => ?_)
 rw [if_pos (by simp; omega)]
 simp only [Option.bind_some, List.nil_append]
 rw [if_pos (by simp; omega)]
 rfl
def isSld (l : List Int) : Bool := decide (4 ≤ l.length ∧ sld (l.take (l.length - 4)) = l)
theorem open_evl {l : List Int} (hb : Bys l) (hl : l.length ≤ 100000) : Evl (fun k => sum_Open.f k l) (if isSld l = true then (l.take (l.length - 4), true) else ([], false)) := by
 unfold sum_Open.f
 rw [w64 (x := (l.length : Int) - 4) (by omega) (by omega)]
 have e : ((l.length : Int) - 4).toNat = l.length - 4 := by omega
 by_cases h : (l.length : Int) - 4 < 0
 ·have : isSld l = false := by unfold isSld; simp; omega
  simp only [if_pos h, this]
  exact Evl.now fun _ => rfl
 ·simp only [if_neg h, if_pos (show 0 ≤ (l.length : Int) - 4 by omega), if_pos (show (l.length : Int) - 4 ≤ (l.length : Int) by omega), e]
  refine Evl.bind (seal_evl (bys_take hb _) (by simp; omega)) (Evl.now fun _ => ?_)
  by_cases hs : sld (l.take (l.length - 4)) = l
  ·have : isSld l = true := by unfold isSld; simp [hs]; omega
   rw [if_pos ((str_same (sld_bys (bys_take hb _)) hb).2 hs), this, if_pos (by simp; omega)]
   rfl
  ·have : isSld l = false := by unfold isSld; simp [hs]
   rw [if_neg (fun h => hs ((str_same (sld_bys (bys_take hb _)) hb).1 h)), this]
   rfl
theorem eight_loop (d : Nat) : ∀ (i : Int) (x : BitVec 32), 0 ≤ i → i + d = 8 → Evl (fun k => drumlineref1_Eight.l0 k (V x) i) (V (stpn d x)) := by
 induction d with
 | zero =>
  intro i x h0 h1
  refine Evl.stop (fun k => ?_)
  simp only [drumlineref1_Eight.l0, stpn]
  rw [if_neg (by omega)]
 | succ d ih =>
  intro i x h0 h1
  refine Evl.step (fun k => ?_) (ih (i + 1) (stp x) (by omega) (by omega))
  simp only [drumlineref1_Eight.l0]
  have hx := V_lt x
  have hm := msb_nat x
  rw [if_pos (by omega), w64 (x := i + 1) (by omega) (by omega)]
  cases e : x.msb with
  | false =>
   rw [e] at hm
   have : ¬ 2147483648 ≤ x.toNat := of_decide_eq_false hm.symm
   rw [if_neg (by unfold V; omega), stp_V0 e]
  | true =>
   rw [e] at hm
   have : 2147483648 ≤ x.toNat := of_decide_eq_true hm.symm
   rw [if_pos (by unfold V at hx ⊢; omega), stp_V1 e]
theorem eight_evl (x : BitVec 32) : Evl (fun k => drumlineref1_Eight.f k (V x)) (V (st8 x)) := eight_loop 8 0 x (by omega) (by omega)
theorem rmore_loop {l : List Int} (hb : Bys l) (hl : l.length ≤ 100000) (d : Nat) : ∀ (i : Int) (x : BitVec 32), 0 ≤ i → i + d = l.length → Evl (fun k => drumlineref1_More.l0 k (V x) l i) (V (~~~ (run x (L (l.drop i.toNat))))) := by
 induction d with
 | zero =>
  intro i x h0 h1
  refine Evl.stop (fun k => ?_)
  simp only [drumlineref1_More.l0]
  rw [if_neg (by omega), List.drop_eq_nil_of_le (by omega), not_V]
  rfl
 | succ d ih =>
  intro i x h0 h1
  have e : l.drop i.toNat = rd l i :: l.drop (i + 1).toNat := by
   rw [List.drop_eq_getElem_cons (by omega), show (i + 1).toNat = i.toNat + 1 by omega]
   unfold rd
   simp [List.getD_eq_getElem?_getD, List.getElem?_eq_getElem (show i.toNat < l.length by omega)]
  have hc := hb (rd l i) (by
   unfold rd
   rw [List.getD_eq_getElem?_getD, List.getElem?_eq_getElem (by omega)]
   simp)
  refine Evl.succ ?_
  simp only [drumlineref1_More.l0, if_pos (show i < (l.length : Int) by omega), if_pos h0]
  rw [top_V hc.1 hc.2, xor_V, w64 (x := i + 1) (by omega) (by omega)]
  refine Evl.bind (eight_evl _) ?_
  have := ih (i + 1) (st8 (x ^^^ top (byt (rd l i)))) (by omega) (by omega)
  rw [e]
  exact this
theorem rmore_evl {l : List Int} (hb : Bys l) (hl : l.length ≤ 100000) (s : BitVec 32) : Evl (fun k => drumlineref1_More.f k (V s) l) (V (more s (L l))) := by
 unfold drumlineref1_More.f
 rw [not_V]
 exact rmore_loop hb hl l.length 0 (~~~ s) (by omega) (by omega)
theorem rof_evl {l : List Int} (hb : Bys l) (hl : l.length ≤ 100000) : Evl (fun k => drumlineref1_Of.f k l) (V (more 0#32 (L l))) := by
 unfold drumlineref1_Of.f
 exact Evl.bind (rmore_evl hb hl 0#32) (Evl.now fun _ => rfl)
theorem rcopy {l : List Int} (hl : l.length ≤ 100000) : drumlineref1_Copy.f l = some l := by
 unfold drumlineref1_Copy.f
 rw [if_pos (by simp; omega)]
 rfl
theorem rseal_evl {l : List Int} (hb : Bys l) (hl : l.length ≤ 100000) : Evl (fun k => drumlineref1_Seal.f k l) (sld l) := by
 unfold drumlineref1_Seal.f
 refine Evl.bind (rof_evl hb hl) ?_
 rw [rcopy hl]
 refine Evl.now fun _ => ?_
 simp only [Option.bind_some]
 rw [if_pos (by simp; omega)]
 rfl
end Go.Proofs.YtaaifdclojkdmaaDoor.PSum
