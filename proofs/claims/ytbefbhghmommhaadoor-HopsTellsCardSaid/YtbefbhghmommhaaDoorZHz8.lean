/- Texts of this claim, laid together by a program (wip/g/merge5.py): HPe, HPa, MWox15, MWox11, MWox8. -/
import Derived.Test.YtbefbhghmommhaaDoorZHz4
import Derived.LaidEql
import Derived.Stop.Asserts
import Derived.RowKitTokens
set_option linter.unusedVariables false
set_option linter.unusedSimpArgs false
set_option maxRecDepth 100000
namespace Go.Proofs.YtbefbhghmommhaaDoor.MWo
open Go.RowKit Go.Extern.Stop Go.Stop Go.Extern Go.Proofs.YtbefbhghmommhaaDoorW.PrintWords Go.Proofs.YtbefbhghmommhaaDoorW.PrintLast Go.Proofs.YtbefbhghmommhaaDoorW.PrintMore
theorem isTypeOfC (v : Value) (w : World) : (ReflectliteType.typeOf #[.iface 66 v]).run Tryd.prog w = .ok (.iface 98 (.agg #[.pointer (some ⟨1, 66, none⟩)])) w := by kernel_rfl
theorem isComparableC (w : World) : ((ReflectliteType.method fun t => do Rtype.noPackHeld "Comparable" t; (fun a => Value.bool a.comparable) <$> typeInfo t) #[.agg #[.pointer (some ⟨1, 66, none⟩)]]).run Tryd.prog w = .ok (.bool true) w := by kernel_rfl
theorem isMethodComparable (v : Value) (w : World) : (Go.method 245 98 v "Comparable").run Tryd.prog w = .ok (83, v) w := by kernel_rfl
theorem noIsF (v : Value) (xT : TypeId) (w : World) : (Instr.typeAssert (.iface 61 v) xT 110 true).run Tryd.prog w = .ok (.tuple #[.nilIface, .bool false]) w := run_typeAssert_lacksB Tryd.underlying110 (by kernel_rfl) (by kernel_rfl) v xT w
theorem noIsC (v : Value) (xT : TypeId) (w : World) : (Instr.typeAssert (.iface 66 v) xT 110 true).run Tryd.prog w = .ok (.tuple #[.nilIface, .bool false]) w := run_typeAssert_lacksB Tryd.underlying110 (by kernel_rfl) (by kernel_rfl) v xT w
theorem hasUnwrapF (v : Value) (xT : TypeId) (w : World) : (Instr.typeAssert (.iface 61 v) xT 105 true).run Tryd.prog w = .ok (.tuple #[.iface 61 v, .bool true]) w := run_typeAssert_hasB Tryd.underlying105 (by kernel_rfl) v xT w
theorem noUnwrapC (v : Value) (xT : TypeId) (w : World) : (Instr.typeAssert (.iface 66 v) xT 105 true).run Tryd.prog w = .ok (.tuple #[.nilIface, .bool false]) w := run_typeAssert_lacksB Tryd.underlying105 (by kernel_rfl) (by kernel_rfl) v xT w
theorem noUnwrapsC (v : Value) (xT : TypeId) (w : World) : (Instr.typeAssert (.iface 66 v) xT 107 true).run Tryd.prog w = .ok (.tuple #[.nilIface, .bool false]) w := run_typeAssert_lacksB Tryd.underlying107 (by kernel_rfl) (by kernel_rfl) v xT w
theorem methodUnwrapF (v : Value) (w : World) : (Go.method 245 61 v "Unwrap").run Tryd.prog w = .ok (76, v) w := by kernel_rfl
theorem eql_codes (a b : Int) (w : World) : (binOp .eql 59 (.iface 66 (.int .i64 a)) (.iface 66 (.int .i64 b))).run Tryd.prog w = .ok (.bool (a == b)) w := by
 obtain ⟨i, hi, hcomp⟩ : ∃ i, Tryd.prog.info? 66 = some i ∧ i.comparable = true := by
  have h : (Tryd.prog.info? 66).map (·.comparable) = some true := by kernel_rfl
  exact Option.map_eq_some_iff.1 h
 have h : ∀ d : Nat, (Op.equalIn (d + 2) 59 (.iface 66 (.int .i64 a)) (.iface 66 (.int .i64 b))).run Tryd.prog w = .ok (a == b) w := fun d => by simp [Op.equalIn, run_underlying Tryd.underlying59, run_underlying Tryd.underlying66, typeInfo, hi, hcomp]
 simp only [binOp]
 simp [Op.equal, Op.maxDepth, h 9998]
def Er (W : World) (m : Nat) (v : Value) (e ea : Int) : Prop :=
 (e = 0 ∧ v = .nilIface) ∨ (e ≠ 0 ∧ ∃ q, m ≤ q ∧ v = .iface 61 (.pointer (some ⟨q, 0, none⟩)) ∧ W.heap[q]? = some (.cells #[.int .i64 ea, .iface 66 (.int .i64 e)] 68 (0, 0)))
theorem eis_in (q : Nat) (e ea n : Int) (w : World) (h : w.heap[q]? = some (.cells #[.int .i64 ea, .iface 66 (.int .i64 e)] 68 (0, 0))) :
  Calls Tryd.prog 47 #[.iface 61 (.pointer (some ⟨q, 0, none⟩)), .iface 66 (.int .i64 n), .bool true] w fun ev w' => ev = .returned (.bool (e == n)) ∧ w' = w := by
 have hc : w.cell? ⟨q, 1, none⟩ = some (.iface 66 (.int .i64 e)) := (blk_cell h 1).trans rfl
 have HH := am h
 clear h
 have nF := noIsF
 have nC := noIsC
 have uF := hasUnwrapF
 have uC := noUnwrapC
 have vC := noUnwrapsC
 have mU := methodUnwrapF
 have hty := run_eql_iface_types (P := Tryd.prog) 61 66 (.pointer (some ⟨q, 0, none⟩)) (.int .i64 n) Tryd.underlying59 (by decide) w
 have heq := eql_codes e n w
 obtain ⟨r, hr⟩ : ∃ r, (e == n) = r := ⟨_, rfl⟩
 rw [hr] at heq ⊢
 clear hr
 cases r with
 | true =>
  go_enter Tryd.func47, Tryd.ntmps47
  go_wp2
  refine wp_loop_rounds 2 ?_
  rw [rounds_succ]
  go_wp2
  rw [rounds_succ]
  go_wp2
  go_ret
  exact ⟨rfl, rfl⟩
 | false =>
  go_enter Tryd.func47, Tryd.ntmps47
  go_wp2
  refine wp_loop_rounds 2 ?_
  rw [rounds_succ]
  go_wp2
  rw [rounds_succ]
  go_wp2
  go_ret
  exact ⟨rfl, rfl⟩
theorem eis_walk (q : Nat) (e ea n : Int) (w : World) (h : w.heap[q]? = some (.cells #[.int .i64 ea, .iface 66 (.int .i64 e)] 68 (0, 0))) :
  Calls Tryd.prog 34 #[.iface 61 (.pointer (some ⟨q, 0, none⟩)), .iface 66 (.int .i64 n)] w fun ev w' => ev = .returned (.bool (e == n)) ∧ w' = w := by
 have h8 := @run_callFunc_extern Tryd.prog 46 _ ReflectliteType.typeOf Tryd.func46 (by kernel_rfl) (by kernel_rfl) (by kernel_rfl) (by kernel_rfl)
 have h32 := @run_callFunc_extern Tryd.prog 83 _ (ReflectliteType.method fun t => do Rtype.noPackHeld "Comparable" t; pure (.bool (← typeInfo t).comparable)) Tryd.func83 (by kernel_rfl) (by kernel_rfl) (by kernel_rfl) (by kernel_rfl)
 have tT := isTypeOfC
 have cT := isComparableC
 have mR := isMethodComparable
 have HI := am (eis_in q e ea n w h)
 clear h
 go_enter Tryd.func34, Tryd.ntmps34
 go_wp2_with (first | (go_at_call 47; refine HI.out.mono ?_; rintro ev w1 ⟨rfl, rfl⟩))
 go_ret
 exact ⟨rfl, rfl⟩
set_option linter.unusedVariables false
set_option linter.unusedSimpArgs false
set_option maxRecDepth 100000
theorem as_valueOf27 (t : Addr) (w : World) : (ReflectliteValue.unpack (.iface 63 (.pointer (some t)))).run Tryd.prog w
  = .ok (.agg #[.pointer (some ⟨1, 63, none⟩), .pointer (some ⟨w.heap.size, 0, none⟩), .int .u64 150]) (w.alloc (.cells #[.pointer (some t)] 63)) := by kernel_rfl
theorem as_type27 (a : Addr) (w : World) : (ReflectliteValue.methodAny (ReflectliteValue.valueError "reflectlite.Value.Type" 0) (fun t _ _ _ => ReflectliteType.toType t) #[.agg #[.pointer (some ⟨1, 63, none⟩), .pointer (some a), .int .u64 150]]).run Tryd.prog w
  = .ok (.iface 98 (.agg #[.pointer (some ⟨1, 63, none⟩)])) w := by kernel_rfl
theorem as_methodKind (h : Value) (w : World) : (Go.method 245 98 (.agg #[h]) "Kind").run Tryd.prog w = .ok (72, h) w := by kernel_rfl
theorem as_kind27 (w : World) : ((ReflectliteType.abiMethod fun t => (fun a : Nat => Value.int IntKind.u8 (a : Int)) <$> Rtype.kind t) #[.pointer (some ⟨1, 63, none⟩)]).run Tryd.prog w = .ok (.int .u8 22) w := by kernel_rfl
theorem as_kind25 (w : World) : ((ReflectliteType.abiMethod fun t => (fun a : Nat => Value.int IntKind.u8 (a : Int)) <$> Rtype.kind t) #[.pointer (some ⟨1, 61, none⟩)]).run Tryd.prog w = .ok (.int .u8 22) w := by kernel_rfl
theorem rlm (z : Sem Value) (f : TypeId → Addr → Nat → Nat → Sem Value) (v : Value) :
  ReflectliteValue.method z f #[v] = (do match ← ReflectliteValue.parts v with | none => z | some (t, a, fl) => f t a fl (fl % 32)) := rfl
theorem as_parts27 (a : Addr) (w : World) : (ReflectliteValue.parts (.agg #[.pointer (some ⟨1, 63, none⟩), .pointer (some a), .int .u64 150])).run Tryd.prog w = .ok (some (63, a, 150)) w := by kernel_rfl
theorem as_isNil27 (a p : Addr) (W : World) (ha : W.cell? a = some (.pointer (some p))) :
  (ReflectliteValue.method (ReflectliteValue.valueError "reflectlite.Value.IsNil" 0) ReflectliteValue.isNil #[.agg #[.pointer (some ⟨1, 63, none⟩), .pointer (some a), .int .u64 150]]).run Tryd.prog W = .ok (.bool false) W := by
 rw [rlm]
 simp only [Sem.run_bind, as_parts27, Result.andThen]
 simp [ReflectliteValue.isNil, loadVar, isAgg, underlying, Tryd.underlying63, ha, Result.andThen]
theorem as_methodElem (h : Value) (w : World) : (Go.method 245 98 (.agg #[h]) "Elem").run Tryd.prog w = .ok (84, .agg #[h]) w := by kernel_rfl
theorem as_methodImplements (h : Value) (w : World) : (Go.method 245 98 (.agg #[h]) "Implements").run Tryd.prog w = .ok (85, .agg #[h]) w := by kernel_rfl
theorem as_methodAssignableTo (h : Value) (w : World) : (Go.method 245 98 (.agg #[h]) "AssignableTo").run Tryd.prog w = .ok (82, .agg #[h]) w := by kernel_rfl
theorem as_elem27 (w : World) : (ReflectliteType.method ReflectliteType.elem #[.agg #[.pointer (some ⟨1, 63, none⟩)]]).run Tryd.prog w = .ok (.iface 98 (.agg #[.pointer (some ⟨1, 61, none⟩)])) w := by kernel_rfl
theorem as_implements25 (w : World) : (ReflectliteType.relation "Implements" ReflectliteType.implements_ #[.agg #[.pointer (some ⟨1, 61, none⟩)], .iface 98 (.agg #[.pointer (some ⟨1, 59, none⟩)])]).run Tryd.prog w = .ok (.bool true) w := by kernel_rfl
theorem as_typeOf25 (v : Value) (w : World) : (ReflectliteType.typeOf #[.iface 61 v]).run Tryd.prog w = .ok (.iface 98 (.agg #[.pointer (some ⟨1, 61, none⟩)])) w := by kernel_rfl
theorem as_assignable25 (w : World) : (ReflectliteType.relation "AssignableTo" ReflectliteType.assignableTo #[.agg #[.pointer (some ⟨1, 61, none⟩)], .iface 98 (.agg #[.pointer (some ⟨1, 61, none⟩)])]).run Tryd.prog w = .ok (.bool true) w := by kernel_rfl
theorem as_valueOf25 (e : Addr) (w : World) : (ReflectliteValue.unpack (.iface 61 (.pointer (some e)))).run Tryd.prog w
  = .ok (.agg #[.pointer (some ⟨1, 61, none⟩), .pointer (some ⟨w.heap.size, 0, none⟩), .int .u64 150]) (w.alloc (.cells #[.pointer (some e)] 61)) := by kernel_rfl
theorem as_elemOf27 (w : World) : (Rtype.elem? 63).run Tryd.prog w = .ok (some 61) w := by kernel_rfl
theorem as_mk25 (p : Addr) (w : World) : (ReflectliteValue.mk 61 p ReflectliteValue.flagAddr).run Tryd.prog w = .ok (.agg #[.pointer (some ⟨1, 61, none⟩), .pointer (some p), .int .u64 406]) w := by kernel_rfl
theorem as_elemV27 (a p : Addr) (W : World) (ha : W.cell? a = some (.pointer (some p))) :
  (ReflectliteValue.method (ReflectliteValue.valueError "reflectlite.Value.Elem" 0) ReflectliteValue.elem #[.agg #[.pointer (some ⟨1, 63, none⟩), .pointer (some a), .int .u64 150]]).run Tryd.prog W
   = .ok (.agg #[.pointer (some ⟨1, 61, none⟩), .pointer (some p), .int .u64 406]) W := by
 rw [rlm]
 simp only [Sem.run_bind, as_parts27, Result.andThen]
 simp [ReflectliteValue.elem, loadVar, isAgg, underlying, Tryd.underlying63, ha, Result.andThen, as_elemOf27, as_mk25]
theorem rls (v x : Value) : ReflectliteValue.set #[v, x] = (do
  let (some (dst, a, fl), some (src, b, _)) := (← ReflectliteValue.parts v, ← ReflectliteValue.parts x)
   | unsupported (.noEntry "extern/(internal/reflectlite.Value).Set.zeroValue")
  if fl / ReflectliteValue.flagAddr % 2 == 0 then unsupported (.noEntry "extern/(internal/reflectlite.Value).Set.unaddressable")
  let val ← loadVar src b
  if ← Rtype.directlyAssignable dst src then storeVar dst a val
  else if ← Rtype.implements dst src then
   if (← Rtype.kind src) == 20 then
    match val with
    | .nilIface => unsupported (.noEntry "extern/reflectlite: a nil value of one interface type handed on as a value of another")
    | _ => storeVar dst a val
   else storeVar dst a (.iface src val)
  else panicString ("reflectlite.Set: value of type " ++ (← Rtype.spelt src) ++ " is not assignable to type " ++ (← Rtype.spelt dst))
  pure (.tuple #[])) := rfl
theorem as_parts25a (a : Addr) (w : World) : (ReflectliteValue.parts (.agg #[.pointer (some ⟨1, 61, none⟩), .pointer (some a), .int .u64 406])).run Tryd.prog w = .ok (some (61, a, 406)) w := by kernel_rfl
theorem as_parts25 (a : Addr) (w : World) : (ReflectliteValue.parts (.agg #[.pointer (some ⟨1, 61, none⟩), .pointer (some a), .int .u64 150])).run Tryd.prog w = .ok (some (61, a, 150)) w := by kernel_rfl
theorem as_direct25 (w : World) : (Rtype.directlyAssignable 61 61).run Tryd.prog w = .ok true w := by kernel_rfl
theorem as_set25 (ta b e : Addr) (old : Value) (W : World) (hb : W.cell? b = some (.pointer (some e))) (ht : W.cell? ta = some old) (hf : W.frozen? ta = false) :
  (ReflectliteValue.set #[.agg #[.pointer (some ⟨1, 61, none⟩), .pointer (some ta), .int .u64 406], .agg #[.pointer (some ⟨1, 61, none⟩), .pointer (some b), .int .u64 150]]).run Tryd.prog W
   = .ok (.tuple #[]) (W.setCell ta (.pointer (some e))) := by
 rw [rls]
 simp only [Sem.run_bind, as_parts25a, as_parts25, Result.andThen]
 simp [ReflectliteValue.flagAddr, loadVar, isAgg, underlying, Tryd.underlying61, hb, Result.andThen, as_direct25, storeVar, Value.cells, storeCells, Addr.add]
 rw [run_store Tryd.prog W ta _ _ (by rfl)]
 simp [ht, hf]
set_option maxHeartbeats 4000000 in
theorem as_hit (e t : Addr) (old : Value) (w : World) (hg : w.cell? ⟨0, 0, none⟩ = some (.iface 98 (.agg #[.pointer (some ⟨1, 59, none⟩)]))) (ht0 : w.cell? t = some old) (hf0 : w.frozen? t = false) :
  Calls Tryd.prog 33 #[.iface 61 (.pointer (some e)), .iface 63 (.pointer (some t))] w fun ev w' => ev = .returned (.bool true) ∧ w' = ((((w.alloc (.cells #[.pointer (some t)] 63)).alloc (.cells #[.pointer (some ⟨1, 63, none⟩), .pointer (some ⟨w.heap.size, 0, none⟩), .int .u64 150] 81)).alloc (.cells #[.pointer (some ⟨1, 63, none⟩), .pointer (some ⟨w.heap.size, 0, none⟩), .int .u64 150] 81)).alloc (.cells #[.pointer (some e)] 61)).setCell t (.pointer (some e)) := by
 have h6 := @run_callFunc_extern Tryd.prog 42 _ (fun args => ReflectliteValue.unpack (args.getD 0 (.tuple #[]))) Tryd.func42 (by kernel_rfl) (by kernel_rfl) (by kernel_rfl) (by kernel_rfl)
 have h7 := @run_callFunc_extern Tryd.prog 43 _ (ReflectliteValue.methodAny (ReflectliteValue.valueError "reflectlite.Value.Type" 0) (fun t _ _ _ => ReflectliteType.toType t)) Tryd.func43 (by kernel_rfl) (by kernel_rfl) (by kernel_rfl) (by kernel_rfl)
 have h8 := @run_callFunc_extern Tryd.prog 44 _ (ReflectliteValue.method (ReflectliteValue.valueError "reflectlite.Value.IsNil" 0) ReflectliteValue.isNil) Tryd.func44 (by kernel_rfl) (by kernel_rfl) (by kernel_rfl) (by kernel_rfl)
 have h27 := @run_callFunc_extern Tryd.prog 72 _ (ReflectliteType.abiMethod fun t => do pure (.int .u8 (← Rtype.kind t))) Tryd.func72 (by kernel_rfl) (by kernel_rfl) (by kernel_rfl) (by kernel_rfl)
 have h37 := @run_callFunc_extern Tryd.prog 84 _ (ReflectliteType.method ReflectliteType.elem) Tryd.func84 (by kernel_rfl) (by kernel_rfl) (by kernel_rfl) (by kernel_rfl)
 have h38 := @run_callFunc_extern Tryd.prog 85 _ (ReflectliteType.relation "Implements" ReflectliteType.implements_) Tryd.func85 (by kernel_rfl) (by kernel_rfl) (by kernel_rfl) (by kernel_rfl)
 have h10 := @run_callFunc_extern Tryd.prog 46 _ ReflectliteType.typeOf Tryd.func46 (by kernel_rfl) (by kernel_rfl) (by kernel_rfl) (by kernel_rfl)
 have h35 := @run_callFunc_extern Tryd.prog 82 _ (ReflectliteType.relation "AssignableTo" ReflectliteType.assignableTo) Tryd.func82 (by kernel_rfl) (by kernel_rfl) (by kernel_rfl) (by kernel_rfl)
 have h11 := @run_callFunc_extern Tryd.prog 53 _ (ReflectliteValue.method (ReflectliteValue.valueError "reflectlite.Value.Elem" 0) ReflectliteValue.elem) Tryd.func53 (by kernel_rfl) (by kernel_rfl) (by kernel_rfl) (by kernel_rfl)
 have h12 := @run_callFunc_extern Tryd.prog 54 _ ReflectliteValue.set Tryd.func54 (by kernel_rfl) (by kernel_rfl) (by kernel_rfl) (by kernel_rfl)
 have tO := as_typeOf25
 have mA := as_methodAssignableTo
 have a25 := as_assignable25
 have v25 := as_valueOf25
 have f6 := as_valueOf27
 have f7 := as_type27
 have mK := as_methodKind
 have mE := as_methodElem
 have mI := as_methodImplements
 have k27 := as_kind27
 have k25 := as_kind25
 have e27 := as_elem27
 have i25 := as_implements25
 have n8 := as_isNil27 ⟨w.heap.size, 0, none⟩ t ((w.alloc (.cells #[.pointer (some t)] 63)).alloc (.cells #[.pointer (some ⟨1, 63, none⟩), .pointer (some ⟨w.heap.size, 0, none⟩), .int .u64 150] 81)) (by simp)
 have hlt : 0 < w.heap.size := by
  rcases Nat.eq_zero_or_pos w.heap.size with h0 | h
  ·simp [World.cell?, h0] at hg
  ·exact h
 have hg2 : ((w.alloc (.cells #[.pointer (some t)] 63)).alloc (.cells #[.pointer (some ⟨1, 63, none⟩), .pointer (some ⟨w.heap.size, 0, none⟩), .int .u64 150] 81)).cell? ⟨0, 0, none⟩ = some (.iface 98 (.agg #[.pointer (some ⟨1, 59, none⟩)])) := by
  rw [World.cell?_alloc_lt _ _ ⟨0, 0, none⟩ (by simp), World.cell?_alloc_lt _ _ ⟨0, 0, none⟩ hlt]; exact hg
 have htl : t.block < w.heap.size := by
  rcases Nat.lt_or_ge t.block w.heap.size with h | h
  ·exact h
  ·simp [World.cell?, Array.getElem?_eq_none h] at ht0
 have el := as_elemV27 ⟨w.heap.size, 0, none⟩ t (((w.alloc (.cells #[.pointer (some t)] 63)).alloc (.cells #[.pointer (some ⟨1, 63, none⟩), .pointer (some ⟨w.heap.size, 0, none⟩), .int .u64 150] 81)).alloc (.cells #[.pointer (some ⟨1, 63, none⟩), .pointer (some ⟨w.heap.size, 0, none⟩), .int .u64 150] 81)) (by rw [World.cell?_alloc_lt _ _ ⟨w.heap.size, 0, none⟩ (by simp; omega)]; simp)
 have st := as_set25 t ⟨w.heap.size + 1 + 1 + 1, 0, none⟩ e old ((((w.alloc (.cells #[.pointer (some t)] 63)).alloc (.cells #[.pointer (some ⟨1, 63, none⟩), .pointer (some ⟨w.heap.size, 0, none⟩), .int .u64 150] 81)).alloc (.cells #[.pointer (some ⟨1, 63, none⟩), .pointer (some ⟨w.heap.size, 0, none⟩), .int .u64 150] 81)).alloc (.cells #[.pointer (some e)] 61))
  (by rw [World.cell?_alloc_at _ _ _ _ (by simp)]; rfl)
  (by rw [World.cell?_alloc_lt _ _ t (by simp; omega), World.cell?_alloc_lt _ _ t (by simp; omega), World.cell?_alloc_lt _ _ t (by simp; omega), World.cell?_alloc_lt _ _ t htl]; exact ht0)
  (by rw [World.frozen?_alloc_old _ _ t (by simp; omega), World.frozen?_alloc_old _ _ t (by simp; omega), World.frozen?_alloc_old _ _ t (by simp; omega), World.frozen?_alloc_old _ _ t (Nat.ne_of_lt htl)]; exact hf0)
 go_enter Tryd.func33, Tryd.ntmps33
 go_wp2
 refine wp_loop_rounds 1 ?_
 rw [rounds_succ]
 go_wp2
 go_ret
 exact ⟨rfl, rfl⟩
end Go.Proofs.YtbefbhghmommhaaDoor.MWo
namespace Go.Proofs.YtbefbhghmommhaaDoor.MWo
open Go.RowKit Go.Proofs.YtbefbhghmommhaaDoorW.PrintWords Go.Proofs.YtbefbhghmommhaaDoorW.PrintLast Go.Proofs.YtbefbhghmommhaaDoorW.PrintMore
attribute [local go_sem] mp_u32s mp_u32m mp_u8s mp_u8m max2_int min2_int max_two min_two max_three min_three max_four min_four
set_option linter.unusedVariables false
set_option linter.unusedSimpArgs false
def slices_Index_int_int.l0 : Nat → List Int → Int → Int → Int → Option (Int)
 | 0, _, _, _, _ => none
 | k + 1, x0, x1, x7, x8 => if x8 < x7 then (if 0 ≤ x8 then (if x8 < (x0.length : Int) then (if x1 = (rd x0 x8) then (some x8) else (slices_Index_int_int.l0 k x0 x1 x7 (wrap64 (x8 + 1)))) else (none)) else (none)) else (some (-1))
def slices_Index_int_int.f (k : Nat) (l0 : List Int) (a1 : Int) : Option (Int) := slices_Index_int_int.l0 k l0 a1 (l0.length : Int) 0
set_option maxHeartbeats 8000000 in
set_option maxRecDepth 100000 in
theorem slices_Index_int_int.calls (k : Nat) (A0 : Option Addr) (c0 : Nat) (l0 : List Int) (a1 : Int) (r : Int) (w : World) (hr0 : Kd.C (Kd.int .i64) w A0 l0.length l0) (hc0 : l0.length ≤ c0) (h : slices_Index_int_int.f k l0 a1 = some r) :
  Calls Tryd.prog 40 #[.slice A0 l0.length c0, .int .i64 a1] w fun e w' => e = .returned (.int .i64 r) ∧ Drawn0 w w' := by
 have HR0 := am hr0
 have HC0 := am hc0
 clear hr0 hc0
 have H : (slices_Index_int_int.l0 k l0 a1 (l0.length : Int) 0) = some r := h
 clear h
 have H' := am H
 clear H
 go_enter Tryd.func40, Tryd.ntmps40
 go_wp2
 go_loopg [8] k (fun kq v8 w' => ∃ (x8_1 : Int), v8 = .int .i64 x8_1 ∧ Aside0 (slices_Index_int_int.l0 kq l0 a1 (l0.length : Int) x8_1 = some r) ∧ Aside0 (kq ≤ k) ∧ Drawn0 w w')
 case atStart => exact ⟨(0), bx, H', ⟨Nat.le_refl _⟩, dn⟩
 case round =>
  clear H'
  try clear p2
  obtain ⟨x8_1, rfl, HA, HK1, ⟨m1, rfl⟩⟩ := hrel
  cases gk with
  | zero => exact absurd HA.out (by simp [slices_Index_int_int.l0])
  | succ k1 =>
   have H := HA.out
   clear HA
   simp only [slices_Index_int_int.l0] at H
   by_cases c3 : x8_1 < (l0.length : Int)
   ·rw [if_pos c3] at H
    have c3b0 : decide (x8_1 < (l0.length : Int)) = true := dT c3
    clear c3
    by_cases c4 : 0 ≤ x8_1
    ·rw [if_pos c4] at H
     have c4b0 : decide (0 ≤ x8_1) = true := dT c4
     clear c4
     by_cases c5 : x8_1 < (l0.length : Int)
     ·rw [if_pos c5] at H
      have c5b0 : decide (x8_1 < (l0.length : Int)) = true := dT c5
      clear c5
      by_cases c6 : a1 = (rd l0 x8_1)
      ·rw [if_pos c6] at H
       have c6b0 : (a1 == (rd l0 x8_1)) = true := beq_iff_eq.mpr c6
       have c6b1 : (a1 != (rd l0 x8_1)) = false := bne_eq_false_iff_eq.mpr c6
       clear c6
       obtain rfl := Option.some.inj H
       have p125 : 0 ≤ (x8_1 : Int) := oT asm
       have q125 : x8_1 < (l0.length : Int) := oT asm
       obtain ⟨ad125, e125, hx125_0⟩ := Kd.at_int HR0.out x8_1 p125 q125
       cases e125
       replace p125 := eq_true p125
       replace q125 := eq_true q125
       go_wp2
       go_ret
       exact ⟨sd, dn⟩
      ·rw [if_neg c6] at H
       have c6b0 : (a1 == (rd l0 x8_1)) = false := beq_eq_false_iff_ne.mpr c6
       have c6b1 : (a1 != (rd l0 x8_1)) = true := bne_iff_ne.mpr c6
       have H' := am H
       clear H
       have p125 : 0 ≤ (x8_1 : Int) := oT asm
       have q125 : x8_1 < (l0.length : Int) := oT asm
       obtain ⟨ad125, e125, hx125_0⟩ := Kd.at_int HR0.out x8_1 p125 q125
       cases e125
       replace p125 := eq_true p125
       replace q125 := eq_true q125
       go_wp2
       go_roundg k1
       case measure => have := HK1.out; omega
       case rel => exact ⟨(wrap64 (x8_1 + 1)), bx, H', ⟨by have := HK1.out; omega⟩, dn⟩
     ·rw [if_neg c5] at H
      exact absurd H (by simp)
    ·rw [if_neg c4] at H
     exact absurd H (by simp)
   ·rw [if_neg c3] at H
    have c3b0 : decide (x8_1 < (l0.length : Int)) = false := dF c3
    clear c3
    obtain rfl := Option.some.inj H
    go_wp2
    go_ret
    exact ⟨sd, dn⟩
def plan_end.f (a0_0 : Int) (a0_1 : Int) (a0_2 : Int) (a0_3 : Int) (a0_4 : Int) (a0_5 : Int) (a1 : Int) : Option (Int × Int × Int) := if a1 = 0 then (some (a0_0, a0_2, a0_3)) else (some (a0_1, a0_4, a0_5))
set_option maxHeartbeats 8000000 in
set_option maxRecDepth 100000 in
theorem plan_end.calls (a0_0 : Int) (a0_1 : Int) (a0_2 : Int) (a0_3 : Int) (a0_4 : Int) (a0_5 : Int) (a1 : Int) (r1 : Int) (r2 : Int) (r3 : Int) (w : World) (h : plan_end.f a0_0 a0_1 a0_2 a0_3 a0_4 a0_5 a1 = some (r1, r2, r3)) :
  Calls Tryd.prog 55 #[.agg #[.int .i64 a0_0, .int .i64 a0_1, .int .i64 a0_2, .int .i64 a0_3, .int .i64 a0_4, .int .i64 a0_5], .int .i64 a1] w fun e w' => e = .returned (.tuple #[.int .i64 r1, .agg #[.int .i64 r2, .int .i64 r3]]) ∧ Below w.heap.size w w' := by
 have hu39 := Tryd.underlying39
 have hu37 := Tryd.underlying37
 have HB := am (Below.refl w.heap.size w)
 have H : (if a1 = 0 then (some (a0_0, a0_2, a0_3)) else (some (a0_1, a0_4, a0_5))) = some (r1, r2, r3) := h
 clear h
 by_cases c3 : a1 = 0
 ·rw [if_pos c3] at H
  have c3b0 : (a1 == 0) = true := beq_iff_eq.mpr c3
  have c3b1 : (a1 != 0) = false := bne_eq_false_iff_eq.mpr c3
  clear c3
  simp only [Option.some.injEq, Prod.mk.injEq] at H
  obtain ⟨rfl, rfl, rfl⟩ := H
  go_enter Tryd.func55, Tryd.ntmps55
  try go_wp2_with (first | ((with_reducible refine gate_dst (N := 2) rfl ?_); refine bxe 2 #[.int .i64 a0_0, .int .i64 a0_1, .int .i64 a0_2, .int .i64 a0_3, .int .i64 a0_4, .int .i64 a0_5] 39 ?_; intro gb122 hg w4 hbox hb; have n0_ := am (below_step bl0 hb); have n1_ := am (hbox); have n2_ := am (gw0 hg); have n3_ := am (gw0 hg); clear HB; have HB := n0_; have BK122 := n1_; have GW122 := n2_; have GE122 := n3_; clear n0_ n1_ n2_ n3_; clear hb hbox hg) | ((with_reducible refine gate_dst (N := 5) rfl ?_); refine bxe 5 #[.int .i64 0, .int .i64 0] 37 ?_; intro gb123 hg w5 hbox hb; have n0_ := am (blk_below (bk BK122) hb); have n1_ := am (below_step (bl1 GE122) hb); have n2_ := am (hbox); have n3_ := am (gw1 hg GE122); have n4_ := am (gw1 hg GE122); have n5_ := am (nl hg BK122); have n6_ := am (nr hg BK122); clear BK122; clear HB; have BK122 := n0_; have HB := n1_; have BK123 := n2_; have GW123 := n3_; have GE123 := n4_; have NB122_123 := n5_; have NB123_122 := n6_; clear n0_ n1_ n2_ n3_ n4_ n5_ n6_; clear hb hbox hg))
  have n0_ := am (blk_drew BK122.out)
  have n1_ := am (blk_drew BK123.out)
  have n2_ := am (below_drew1 HB.out)
  clear BK122
  clear BK123
  clear HB
  have BK122 := n0_
  have BK123 := n1_
  have HB := n2_
  clear n0_ n1_ n2_
  refine start_ (n := 6) (S := fun w' => w'.cell? ⟨gb122, 0, none⟩ = some (.int .i64 a0_0) ∧ w'.cell? ⟨gb122, 1, none⟩ = some (.int .i64 a0_1) ∧ w'.cell? ⟨gb122, 2, none⟩ = some (.int .i64 a0_2) ∧ w'.cell? ⟨gb122, 3, none⟩ = some (.int .i64 a0_3) ∧ w'.cell? ⟨gb122, 4, none⟩ = some (.int .i64 a0_4) ∧ w'.cell? ⟨gb122, 5, none⟩ = some (.int .i64 a0_5)) (ds := []) #[false, false, false, false, false, false] (by kernel_rfl) rfl rfl (cellsK6 BK122.out) (fun hHeld => ?_)
  generalize w5.drew = w6 at BK122 BK123 HB hHeld ⊢
  refine pu 0 8 ?_
  refine pu 2 10 ?_
  refine tk6 1 9 ?_
  refine pu 4 4 ?_
  refine tk6 3 11 ?_
  refine onn 5 (fun K hK => ?_)
  have hs7 : w6.cell? ⟨gb123, 0, none⟩ = some (.int .i64 0) := (blk_cell BK123.out 0).trans rfl
  have hfs7 := blk_frozen BK123.out 0
  have hns7_0 := NB122_123.out
  have hms7_0 := NB123_122.out
  have hs8 : w6.cell? ⟨gb123, 1, none⟩ = some (.int .i64 0) := (blk_cell BK123.out 1).trans rfl
  have hfs8 := blk_frozen BK123.out 1
  have hns8_0 := NB122_123.out
  have hms8_0 := NB123_122.out
  refine skip_ (w1 := ?_) (by rfl) rfl ?_ ?_
  rotate_left
  ·go_simp
   rfl
  refine hK.out _ _ ⟨((cell_far (p := ⟨gb123, _, none⟩) NB122_123.out _).trans (((cell_far (p := ⟨gb123, _, none⟩) NB122_123.out _).trans (hHeld.1)))), ((cell_far (p := ⟨gb123, _, none⟩) NB122_123.out _).trans (((cell_far (p := ⟨gb123, _, none⟩) NB122_123.out _).trans (hHeld.2.1)))), ((cell_far (p := ⟨gb123, _, none⟩) NB122_123.out _).trans (((cell_far (p := ⟨gb123, _, none⟩) NB122_123.out _).trans (hHeld.2.2.1)))), ((cell_far (p := ⟨gb123, _, none⟩) NB122_123.out _).trans (((cell_far (p := ⟨gb123, _, none⟩) NB122_123.out _).trans (hHeld.2.2.2.1)))), ((cell_far (p := ⟨gb123, _, none⟩) NB122_123.out _).trans (((cell_far (p := ⟨gb123, _, none⟩) NB122_123.out _).trans (hHeld.2.2.2.2.1)))), ((cell_far (p := ⟨gb123, _, none⟩) NB122_123.out _).trans (((cell_far (p := ⟨gb123, _, none⟩) NB122_123.out _).trans (hHeld.2.2.2.2.2))))⟩ (fun hHeld => ?_)
  clear hK K
  refine done_ (by kernel_rfl) ?_
  try go_wp2
  refine bodyPost_ret (results_tc rfl _ _ gb123 37 #[.int .i64 a0_2, .int .i64 a0_3] (0, 0) _ rfl (by (with_reducible repeat (first | refine blk_drewN ?_ _ | refine blk_drew ?_ | refine blk_alloc ?_ _)); refine blk_put (cs := #[.int .i64 a0_2, .int .i64 0]) ?_ 1 _ rfl; (with_reducible repeat (first | refine blk_drewN ?_ _ | refine blk_drew ?_ | refine blk_alloc ?_ _)); refine blk_put (cs := #[.int .i64 0, .int .i64 0]) ?_ 0 _ rfl; exact bk BK123) Tryd.underlying37 rfl (by kernel_rfl)) rfl ?_
  exact ⟨ew, bl2 GE122 GE123⟩
 ·rw [if_neg c3] at H
  have c3b0 : (a1 == 0) = false := beq_eq_false_iff_ne.mpr c3
  have c3b1 : (a1 != 0) = true := bne_iff_ne.mpr c3
  simp only [Option.some.injEq, Prod.mk.injEq] at H
  obtain ⟨rfl, rfl, rfl⟩ := H
  go_enter Tryd.func55, Tryd.ntmps55
  try go_wp2_with (first | ((with_reducible refine gate_dst (N := 2) rfl ?_); refine bxe 2 #[.int .i64 a0_0, .int .i64 a0_1, .int .i64 a0_2, .int .i64 a0_3, .int .i64 a0_4, .int .i64 a0_5] 39 ?_; intro gb122 hg w9 hbox hb; have n0_ := am (below_step bl0 hb); have n1_ := am (hbox); have n2_ := am (gw0 hg); have n3_ := am (gw0 hg); clear HB; have HB := n0_; have BK122 := n1_; have GW122 := n2_; have GE122 := n3_; clear n0_ n1_ n2_ n3_; clear hb hbox hg) | ((with_reducible refine gate_dst (N := 5) rfl ?_); refine bxe 5 #[.int .i64 0, .int .i64 0] 37 ?_; intro gb123 hg w10 hbox hb; have n0_ := am (blk_below (bk BK122) hb); have n1_ := am (below_step (bl1 GE122) hb); have n2_ := am (hbox); have n3_ := am (gw1 hg GE122); have n4_ := am (gw1 hg GE122); have n5_ := am (nl hg BK122); have n6_ := am (nr hg BK122); clear BK122; clear HB; have BK122 := n0_; have HB := n1_; have BK123 := n2_; have GW123 := n3_; have GE123 := n4_; have NB122_123 := n5_; have NB123_122 := n6_; clear n0_ n1_ n2_ n3_ n4_ n5_ n6_; clear hb hbox hg))
  have n0_ := am (blk_drew BK122.out)
  have n1_ := am (blk_drew BK123.out)
  have n2_ := am (below_drew1 HB.out)
  clear BK122
  clear BK123
  clear HB
  have BK122 := n0_
  have BK123 := n1_
  have HB := n2_
  clear n0_ n1_ n2_
  refine start_ (n := 6) (S := fun w' => w'.cell? ⟨gb122, 0, none⟩ = some (.int .i64 a0_0) ∧ w'.cell? ⟨gb122, 1, none⟩ = some (.int .i64 a0_1) ∧ w'.cell? ⟨gb122, 2, none⟩ = some (.int .i64 a0_2) ∧ w'.cell? ⟨gb122, 3, none⟩ = some (.int .i64 a0_3) ∧ w'.cell? ⟨gb122, 4, none⟩ = some (.int .i64 a0_4) ∧ w'.cell? ⟨gb122, 5, none⟩ = some (.int .i64 a0_5)) (ds := []) #[false, false, false, false, false, false] (by kernel_rfl) rfl rfl (cellsK6 BK122.out) (fun hHeld => ?_)
  generalize w10.drew = w11 at BK122 BK123 HB hHeld ⊢
  refine pu 0 12 ?_
  refine pu 2 14 ?_
  refine tk6 1 13 ?_
  refine pu 4 4 ?_
  refine tk6 3 15 ?_
  refine onn 5 (fun K hK => ?_)
  have hs12 : w11.cell? ⟨gb123, 0, none⟩ = some (.int .i64 0) := (blk_cell BK123.out 0).trans rfl
  have hfs12 := blk_frozen BK123.out 0
  have hns12_0 := NB122_123.out
  have hms12_0 := NB123_122.out
  have hs13 : w11.cell? ⟨gb123, 1, none⟩ = some (.int .i64 0) := (blk_cell BK123.out 1).trans rfl
  have hfs13 := blk_frozen BK123.out 1
  have hns13_0 := NB122_123.out
  have hms13_0 := NB123_122.out
  refine skip_ (w1 := ?_) (by rfl) rfl ?_ ?_
  rotate_left
  ·go_simp
   rfl
  refine hK.out _ _ ⟨((cell_far (p := ⟨gb123, _, none⟩) NB122_123.out _).trans (((cell_far (p := ⟨gb123, _, none⟩) NB122_123.out _).trans (hHeld.1)))), ((cell_far (p := ⟨gb123, _, none⟩) NB122_123.out _).trans (((cell_far (p := ⟨gb123, _, none⟩) NB122_123.out _).trans (hHeld.2.1)))), ((cell_far (p := ⟨gb123, _, none⟩) NB122_123.out _).trans (((cell_far (p := ⟨gb123, _, none⟩) NB122_123.out _).trans (hHeld.2.2.1)))), ((cell_far (p := ⟨gb123, _, none⟩) NB122_123.out _).trans (((cell_far (p := ⟨gb123, _, none⟩) NB122_123.out _).trans (hHeld.2.2.2.1)))), ((cell_far (p := ⟨gb123, _, none⟩) NB122_123.out _).trans (((cell_far (p := ⟨gb123, _, none⟩) NB122_123.out _).trans (hHeld.2.2.2.2.1)))), ((cell_far (p := ⟨gb123, _, none⟩) NB122_123.out _).trans (((cell_far (p := ⟨gb123, _, none⟩) NB122_123.out _).trans (hHeld.2.2.2.2.2))))⟩ (fun hHeld => ?_)
  clear hK K
  refine done_ (by kernel_rfl) ?_
  try go_wp2
  refine bodyPost_ret (results_tc rfl _ _ gb123 37 #[.int .i64 a0_4, .int .i64 a0_5] (0, 0) _ rfl (by (with_reducible repeat (first | refine blk_drewN ?_ _ | refine blk_drew ?_ | refine blk_alloc ?_ _)); refine blk_put (cs := #[.int .i64 a0_4, .int .i64 0]) ?_ 1 _ rfl; (with_reducible repeat (first | refine blk_drewN ?_ _ | refine blk_drew ?_ | refine blk_alloc ?_ _)); refine blk_put (cs := #[.int .i64 0, .int .i64 0]) ?_ 0 _ rfl; exact bk BK123) Tryd.underlying37 rfl (by kernel_rfl)) rfl ?_
  exact ⟨ew, bl2 GE122 GE123⟩
def plan_index.f (a0 : Int) (a1 : Int) : Option (Bool) := if a0 ≥ 0 then (some (decide (a0 < a1))) else (some false)
set_option maxHeartbeats 8000000 in
set_option maxRecDepth 100000 in
theorem plan_index.calls (a0 : Int) (a1 : Int) (r : Bool) (w : World) (h : plan_index.f a0 a1 = some r) :
  Calls Tryd.prog 49 #[.int .i64 a0, .int .i64 a1] w fun e w' => e = .returned (.bool r) ∧ Drawn0 w w' := by
 have H : (if a0 ≥ 0 then (some (decide (a0 < a1))) else (some false)) = some r := h
 clear h
 by_cases c3 : a0 ≥ 0
 ·rw [if_pos c3] at H
  have c3b0 : decide (0 ≤ a0) = true := dT c3
  clear c3
  obtain rfl := Option.some.inj H
  go_enter Tryd.func49, Tryd.ntmps49
  go_wp2
  go_ret
  exact ⟨sd, dn⟩
 ·rw [if_neg c3] at H
  have c3b0 : decide (0 ≤ a0) = false := dF c3
  clear c3
  obtain rfl := Option.some.inj H
  go_enter Tryd.func49, Tryd.ntmps49
  go_wp2
  go_ret
  exact ⟨sd, dn⟩
end Go.Proofs.YtbefbhghmommhaaDoor.MWo
