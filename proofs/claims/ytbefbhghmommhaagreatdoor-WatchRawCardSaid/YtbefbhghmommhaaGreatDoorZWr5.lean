/- Texts of this claim, laid together by a program (wip/g/merge5.py): HPe, HPa, MWox13, MWox14, Hr, MWox15. -/
import Derived.Test.YtbefbhghmommhaaGreatDoorZWr4
import Derived.LaidEql
import Derived.Stop.Asserts
import Derived.RowKitTokens
set_option linter.unusedVariables false
set_option linter.unusedSimpArgs false
set_option maxRecDepth 100000
namespace Go.Proofs.YtbefbhghmommhaaGreatDoor.MWo
open Go.RowKit Go.Extern.Stop Go.Stop Go.Extern Go.Proofs.YtbefbhghmommhaaGreatDoorW.PrintWords Go.Proofs.YtbefbhghmommhaaGreatDoorW.PrintLast Go.Proofs.YtbefbhghmommhaaGreatDoorW.PrintMore
theorem isTypeOfC (v : Value) (w : World) : (ReflectliteType.typeOf #[.iface 115 v]).run Tryz.prog w = .ok (.iface 144 (.agg #[.pointer (some ⟨1, 115, none⟩)])) w := by kernel_rfl
theorem isComparableC (w : World) : ((ReflectliteType.method fun t => do Rtype.noPackHeld "Comparable" t; (fun a => Value.bool a.comparable) <$> typeInfo t) #[.agg #[.pointer (some ⟨1, 115, none⟩)]]).run Tryz.prog w = .ok (.bool true) w := by kernel_rfl
theorem isMethodComparable (v : Value) (w : World) : (Go.method 300 144 v "Comparable").run Tryz.prog w = .ok (144, v) w := by kernel_rfl
theorem noIsF (v : Value) (xT : TypeId) (w : World) : (Instr.typeAssert (.iface 110 v) xT 156 true).run Tryz.prog w = .ok (.tuple #[.nilIface, .bool false]) w := run_typeAssert_lacksB Tryz.underlying156 (by kernel_rfl) (by kernel_rfl) v xT w
theorem noIsC (v : Value) (xT : TypeId) (w : World) : (Instr.typeAssert (.iface 115 v) xT 156 true).run Tryz.prog w = .ok (.tuple #[.nilIface, .bool false]) w := run_typeAssert_lacksB Tryz.underlying156 (by kernel_rfl) (by kernel_rfl) v xT w
theorem hasUnwrapF (v : Value) (xT : TypeId) (w : World) : (Instr.typeAssert (.iface 110 v) xT 151 true).run Tryz.prog w = .ok (.tuple #[.iface 110 v, .bool true]) w := run_typeAssert_hasB Tryz.underlying151 (by kernel_rfl) v xT w
theorem noUnwrapC (v : Value) (xT : TypeId) (w : World) : (Instr.typeAssert (.iface 115 v) xT 151 true).run Tryz.prog w = .ok (.tuple #[.nilIface, .bool false]) w := run_typeAssert_lacksB Tryz.underlying151 (by kernel_rfl) (by kernel_rfl) v xT w
theorem noUnwrapsC (v : Value) (xT : TypeId) (w : World) : (Instr.typeAssert (.iface 115 v) xT 153 true).run Tryz.prog w = .ok (.tuple #[.nilIface, .bool false]) w := run_typeAssert_lacksB Tryz.underlying153 (by kernel_rfl) (by kernel_rfl) v xT w
theorem methodUnwrapF (v : Value) (w : World) : (Go.method 300 110 v "Unwrap").run Tryz.prog w = .ok (137, v) w := by kernel_rfl
theorem eql_codes (a b : Int) (w : World) : (binOp .eql 108 (.iface 115 (.int .i64 a)) (.iface 115 (.int .i64 b))).run Tryz.prog w = .ok (.bool (a == b)) w := by
 obtain ⟨i, hi, hcomp⟩ : ∃ i, Tryz.prog.info? 115 = some i ∧ i.comparable = true := by
  have h : (Tryz.prog.info? 115).map (·.comparable) = some true := by kernel_rfl
  exact Option.map_eq_some_iff.1 h
 have h : ∀ d : Nat, (Op.equalIn (d + 2) 108 (.iface 115 (.int .i64 a)) (.iface 115 (.int .i64 b))).run Tryz.prog w = .ok (a == b) w := fun d => by simp [Op.equalIn, run_underlying Tryz.underlying108, run_underlying Tryz.underlying115, typeInfo, hi, hcomp]
 simp only [binOp]
 simp [Op.equal, Op.maxDepth, h 9998]
def Er (W : World) (m : Nat) (v : Value) (e ea : Int) : Prop :=
 (e = 0 ∧ v = .nilIface) ∨ (e ≠ 0 ∧ ∃ q, m ≤ q ∧ v = .iface 110 (.pointer (some ⟨q, 0, none⟩)) ∧ W.heap[q]? = some (.cells #[.int .i64 ea, .iface 115 (.int .i64 e)] 117 (0, 0)))
theorem eis_in (q : Nat) (e ea n : Int) (w : World) (h : w.heap[q]? = some (.cells #[.int .i64 ea, .iface 115 (.int .i64 e)] 117 (0, 0))) :
  Calls Tryz.prog 102 #[.iface 110 (.pointer (some ⟨q, 0, none⟩)), .iface 115 (.int .i64 n), .bool true] w fun ev w' => ev = .returned (.bool (e == n)) ∧ w' = w := by
 have hc : w.cell? ⟨q, 1, none⟩ = some (.iface 115 (.int .i64 e)) := (blk_cell h 1).trans rfl
 have HH := am h
 clear h
 have nF := noIsF
 have nC := noIsC
 have uF := hasUnwrapF
 have uC := noUnwrapC
 have vC := noUnwrapsC
 have mU := methodUnwrapF
 have hty := run_eql_iface_types (P := Tryz.prog) 110 115 (.pointer (some ⟨q, 0, none⟩)) (.int .i64 n) Tryz.underlying108 (by decide) w
 have heq := eql_codes e n w
 obtain ⟨r, hr⟩ : ∃ r, (e == n) = r := ⟨_, rfl⟩
 rw [hr] at heq ⊢
 clear hr
 cases r with
 | true =>
  go_enter Tryz.func102, Tryz.ntmps102
  go_wp2
  refine wp_loop_rounds 2 ?_
  rw [rounds_succ]
  go_wp2
  rw [rounds_succ]
  go_wp2
  go_ret
  exact ⟨rfl, rfl⟩
 | false =>
  go_enter Tryz.func102, Tryz.ntmps102
  go_wp2
  refine wp_loop_rounds 2 ?_
  rw [rounds_succ]
  go_wp2
  rw [rounds_succ]
  go_wp2
  go_ret
  exact ⟨rfl, rfl⟩
theorem eis_walk (q : Nat) (e ea n : Int) (w : World) (h : w.heap[q]? = some (.cells #[.int .i64 ea, .iface 115 (.int .i64 e)] 117 (0, 0))) :
  Calls Tryz.prog 88 #[.iface 110 (.pointer (some ⟨q, 0, none⟩)), .iface 115 (.int .i64 n)] w fun ev w' => ev = .returned (.bool (e == n)) ∧ w' = w := by
 have h8 := @run_callFunc_extern Tryz.prog 101 _ ReflectliteType.typeOf Tryz.func101 (by kernel_rfl) (by kernel_rfl) (by kernel_rfl) (by kernel_rfl)
 have h32 := @run_callFunc_extern Tryz.prog 144 _ (ReflectliteType.method fun t => do Rtype.noPackHeld "Comparable" t; pure (.bool (← typeInfo t).comparable)) Tryz.func144 (by kernel_rfl) (by kernel_rfl) (by kernel_rfl) (by kernel_rfl)
 have tT := isTypeOfC
 have cT := isComparableC
 have mR := isMethodComparable
 have HI := am (eis_in q e ea n w h)
 clear h
 go_enter Tryz.func88, Tryz.ntmps88
 go_wp2_with (first | (go_at_call 102; refine HI.out.mono ?_; rintro ev w1 ⟨rfl, rfl⟩))
 go_ret
 exact ⟨rfl, rfl⟩
set_option linter.unusedVariables false
set_option linter.unusedSimpArgs false
set_option maxRecDepth 100000
theorem as_valueOf27 (t : Addr) (w : World) : (ReflectliteValue.unpack (.iface 112 (.pointer (some t)))).run Tryz.prog w
  = .ok (.agg #[.pointer (some ⟨1, 112, none⟩), .pointer (some ⟨w.heap.size, 0, none⟩), .int .u64 150]) (w.alloc (.cells #[.pointer (some t)] 112)) := by kernel_rfl
theorem as_type27 (a : Addr) (w : World) : (ReflectliteValue.methodAny (ReflectliteValue.valueError "reflectlite.Value.Type" 0) (fun t _ _ _ => ReflectliteType.toType t) #[.agg #[.pointer (some ⟨1, 112, none⟩), .pointer (some a), .int .u64 150]]).run Tryz.prog w
  = .ok (.iface 144 (.agg #[.pointer (some ⟨1, 112, none⟩)])) w := by kernel_rfl
theorem as_methodKind (h : Value) (w : World) : (Go.method 300 144 (.agg #[h]) "Kind").run Tryz.prog w = .ok (133, h) w := by kernel_rfl
theorem as_kind27 (w : World) : ((ReflectliteType.abiMethod fun t => (fun a : Nat => Value.int IntKind.u8 (a : Int)) <$> Rtype.kind t) #[.pointer (some ⟨1, 112, none⟩)]).run Tryz.prog w = .ok (.int .u8 22) w := by kernel_rfl
theorem as_kind25 (w : World) : ((ReflectliteType.abiMethod fun t => (fun a : Nat => Value.int IntKind.u8 (a : Int)) <$> Rtype.kind t) #[.pointer (some ⟨1, 110, none⟩)]).run Tryz.prog w = .ok (.int .u8 22) w := by kernel_rfl
theorem rlm (z : Sem Value) (f : TypeId → Addr → Nat → Nat → Sem Value) (v : Value) :
  ReflectliteValue.method z f #[v] = (do match ← ReflectliteValue.parts v with | none => z | some (t, a, fl) => f t a fl (fl % 32)) := rfl
theorem as_parts27 (a : Addr) (w : World) : (ReflectliteValue.parts (.agg #[.pointer (some ⟨1, 112, none⟩), .pointer (some a), .int .u64 150])).run Tryz.prog w = .ok (some (112, a, 150)) w := by kernel_rfl
theorem as_isNil27 (a p : Addr) (W : World) (ha : W.cell? a = some (.pointer (some p))) :
  (ReflectliteValue.method (ReflectliteValue.valueError "reflectlite.Value.IsNil" 0) ReflectliteValue.isNil #[.agg #[.pointer (some ⟨1, 112, none⟩), .pointer (some a), .int .u64 150]]).run Tryz.prog W = .ok (.bool false) W := by
 rw [rlm]
 simp only [Sem.run_bind, as_parts27, Result.andThen]
 simp [ReflectliteValue.isNil, loadVar, isAgg, underlying, Tryz.underlying112, ha, Result.andThen]
theorem as_methodElem (h : Value) (w : World) : (Go.method 300 144 (.agg #[h]) "Elem").run Tryz.prog w = .ok (145, .agg #[h]) w := by kernel_rfl
theorem as_methodImplements (h : Value) (w : World) : (Go.method 300 144 (.agg #[h]) "Implements").run Tryz.prog w = .ok (146, .agg #[h]) w := by kernel_rfl
theorem as_methodAssignableTo (h : Value) (w : World) : (Go.method 300 144 (.agg #[h]) "AssignableTo").run Tryz.prog w = .ok (143, .agg #[h]) w := by kernel_rfl
theorem as_elem27 (w : World) : (ReflectliteType.method ReflectliteType.elem #[.agg #[.pointer (some ⟨1, 112, none⟩)]]).run Tryz.prog w = .ok (.iface 144 (.agg #[.pointer (some ⟨1, 110, none⟩)])) w := by kernel_rfl
theorem as_implements25 (w : World) : (ReflectliteType.relation "Implements" ReflectliteType.implements_ #[.agg #[.pointer (some ⟨1, 110, none⟩)], .iface 144 (.agg #[.pointer (some ⟨1, 108, none⟩)])]).run Tryz.prog w = .ok (.bool true) w := by kernel_rfl
theorem as_typeOf25 (v : Value) (w : World) : (ReflectliteType.typeOf #[.iface 110 v]).run Tryz.prog w = .ok (.iface 144 (.agg #[.pointer (some ⟨1, 110, none⟩)])) w := by kernel_rfl
theorem as_assignable25 (w : World) : (ReflectliteType.relation "AssignableTo" ReflectliteType.assignableTo #[.agg #[.pointer (some ⟨1, 110, none⟩)], .iface 144 (.agg #[.pointer (some ⟨1, 110, none⟩)])]).run Tryz.prog w = .ok (.bool true) w := by kernel_rfl
theorem as_valueOf25 (e : Addr) (w : World) : (ReflectliteValue.unpack (.iface 110 (.pointer (some e)))).run Tryz.prog w
  = .ok (.agg #[.pointer (some ⟨1, 110, none⟩), .pointer (some ⟨w.heap.size, 0, none⟩), .int .u64 150]) (w.alloc (.cells #[.pointer (some e)] 110)) := by kernel_rfl
theorem as_elemOf27 (w : World) : (Rtype.elem? 112).run Tryz.prog w = .ok (some 110) w := by kernel_rfl
theorem as_mk25 (p : Addr) (w : World) : (ReflectliteValue.mk 110 p ReflectliteValue.flagAddr).run Tryz.prog w = .ok (.agg #[.pointer (some ⟨1, 110, none⟩), .pointer (some p), .int .u64 406]) w := by kernel_rfl
theorem as_elemV27 (a p : Addr) (W : World) (ha : W.cell? a = some (.pointer (some p))) :
  (ReflectliteValue.method (ReflectliteValue.valueError "reflectlite.Value.Elem" 0) ReflectliteValue.elem #[.agg #[.pointer (some ⟨1, 112, none⟩), .pointer (some a), .int .u64 150]]).run Tryz.prog W
   = .ok (.agg #[.pointer (some ⟨1, 110, none⟩), .pointer (some p), .int .u64 406]) W := by
 rw [rlm]
 simp only [Sem.run_bind, as_parts27, Result.andThen]
 simp [ReflectliteValue.elem, loadVar, isAgg, underlying, Tryz.underlying112, ha, Result.andThen, as_elemOf27, as_mk25]
theorem rls (v x : Value) : ReflectliteValue.set #[v, x] = (do
  let (some (dst, a, fl), some (src, b, _)) := (← ReflectliteValue.parts v, ← ReflectliteValue.parts x)
   | unsupported (.noEntry "extern/(internal/reflectlite.Value).Set.zeroValue")
  if fl / ReflectliteValue.flagAddr % 2 == 0 then unsupported (.noEntry "extern/(internal/reflectlite.Value).Set.unaddressable")
  let val ← loadVar src b
  if ← Rtype.directlyAssignable dst src then storeVar dst a val
  else if ← Rtype.implements dst src then
   if (← Rtype.kind src) == 20 then
    match val with
    | .nilIface => unsupported (.noEntry "extern/reflectlite: a nil value of one interface type handed on as a value of another")
    | _ => storeVar dst a val
   else storeVar dst a (.iface src val)
  else panicString ("reflectlite.Set: value of type " ++ (← Rtype.spelt src) ++ " is not assignable to type " ++ (← Rtype.spelt dst))
  pure (.tuple #[])) := rfl
theorem as_parts25a (a : Addr) (w : World) : (ReflectliteValue.parts (.agg #[.pointer (some ⟨1, 110, none⟩), .pointer (some a), .int .u64 406])).run Tryz.prog w = .ok (some (110, a, 406)) w := by kernel_rfl
theorem as_parts25 (a : Addr) (w : World) : (ReflectliteValue.parts (.agg #[.pointer (some ⟨1, 110, none⟩), .pointer (some a), .int .u64 150])).run Tryz.prog w = .ok (some (110, a, 150)) w := by kernel_rfl
theorem as_direct25 (w : World) : (Rtype.directlyAssignable 110 110).run Tryz.prog w = .ok true w := by kernel_rfl
theorem as_set25 (ta b e : Addr) (old : Value) (W : World) (hb : W.cell? b = some (.pointer (some e))) (ht : W.cell? ta = some old) (hf : W.frozen? ta = false) :
  (ReflectliteValue.set #[.agg #[.pointer (some ⟨1, 110, none⟩), .pointer (some ta), .int .u64 406], .agg #[.pointer (some ⟨1, 110, none⟩), .pointer (some b), .int .u64 150]]).run Tryz.prog W
   = .ok (.tuple #[]) (W.setCell ta (.pointer (some e))) := by
 rw [rls]
 simp only [Sem.run_bind, as_parts25a, as_parts25, Result.andThen]
 simp [ReflectliteValue.flagAddr, loadVar, isAgg, underlying, Tryz.underlying110, hb, Result.andThen, as_direct25, storeVar, Value.cells, storeCells, Addr.add]
 rw [run_store Tryz.prog W ta _ _ (by rfl)]
 simp [ht, hf]
set_option maxHeartbeats 4000000 in
theorem as_hit (e t : Addr) (old : Value) (w : World) (hg : w.cell? ⟨0, 0, none⟩ = some (.iface 144 (.agg #[.pointer (some ⟨1, 108, none⟩)]))) (ht0 : w.cell? t = some old) (hf0 : w.frozen? t = false) :
  Calls Tryz.prog 87 #[.iface 110 (.pointer (some e)), .iface 112 (.pointer (some t))] w fun ev w' => ev = .returned (.bool true) ∧ w' = ((((w.alloc (.cells #[.pointer (some t)] 112)).alloc (.cells #[.pointer (some ⟨1, 112, none⟩), .pointer (some ⟨w.heap.size, 0, none⟩), .int .u64 150] 124)).alloc (.cells #[.pointer (some ⟨1, 112, none⟩), .pointer (some ⟨w.heap.size, 0, none⟩), .int .u64 150] 124)).alloc (.cells #[.pointer (some e)] 110)).setCell t (.pointer (some e)) := by
 have h6 := @run_callFunc_extern Tryz.prog 97 _ (fun args => ReflectliteValue.unpack (args.getD 0 (.tuple #[]))) Tryz.func97 (by kernel_rfl) (by kernel_rfl) (by kernel_rfl) (by kernel_rfl)
 have h7 := @run_callFunc_extern Tryz.prog 98 _ (ReflectliteValue.methodAny (ReflectliteValue.valueError "reflectlite.Value.Type" 0) (fun t _ _ _ => ReflectliteType.toType t)) Tryz.func98 (by kernel_rfl) (by kernel_rfl) (by kernel_rfl) (by kernel_rfl)
 have h8 := @run_callFunc_extern Tryz.prog 99 _ (ReflectliteValue.method (ReflectliteValue.valueError "reflectlite.Value.IsNil" 0) ReflectliteValue.isNil) Tryz.func99 (by kernel_rfl) (by kernel_rfl) (by kernel_rfl) (by kernel_rfl)
 have h27 := @run_callFunc_extern Tryz.prog 133 _ (ReflectliteType.abiMethod fun t => do pure (.int .u8 (← Rtype.kind t))) Tryz.func133 (by kernel_rfl) (by kernel_rfl) (by kernel_rfl) (by kernel_rfl)
 have h37 := @run_callFunc_extern Tryz.prog 145 _ (ReflectliteType.method ReflectliteType.elem) Tryz.func145 (by kernel_rfl) (by kernel_rfl) (by kernel_rfl) (by kernel_rfl)
 have h38 := @run_callFunc_extern Tryz.prog 146 _ (ReflectliteType.relation "Implements" ReflectliteType.implements_) Tryz.func146 (by kernel_rfl) (by kernel_rfl) (by kernel_rfl) (by kernel_rfl)
 have h10 := @run_callFunc_extern Tryz.prog 101 _ ReflectliteType.typeOf Tryz.func101 (by kernel_rfl) (by kernel_rfl) (by kernel_rfl) (by kernel_rfl)
 have h35 := @run_callFunc_extern Tryz.prog 143 _ (ReflectliteType.relation "AssignableTo" ReflectliteType.assignableTo) Tryz.func143 (by kernel_rfl) (by kernel_rfl) (by kernel_rfl) (by kernel_rfl)
 have h11 := @run_callFunc_extern Tryz.prog 110 _ (ReflectliteValue.method (ReflectliteValue.valueError "reflectlite.Value.Elem" 0) ReflectliteValue.elem) Tryz.func110 (by kernel_rfl) (by kernel_rfl) (by kernel_rfl) (by kernel_rfl)
 have h12 := @run_callFunc_extern Tryz.prog 111 _ ReflectliteValue.set Tryz.func111 (by kernel_rfl) (by kernel_rfl) (by kernel_rfl) (by kernel_rfl)
 have tO := as_typeOf25
 have mA := as_methodAssignableTo
 have a25 := as_assignable25
 have v25 := as_valueOf25
 have f6 := as_valueOf27
 have f7 := as_type27
 have mK := as_methodKind
 have mE := as_methodElem
 have mI := as_methodImplements
 have k27 := as_kind27
 have k25 := as_kind25
 have e27 := as_elem27
 have i25 := as_implements25
 have n8 := as_isNil27 ⟨w.heap.size, 0, none⟩ t ((w.alloc (.cells #[.pointer (some t)] 112)).alloc (.cells #[.pointer (some ⟨1, 112, none⟩), .pointer (some ⟨w.heap.size, 0, none⟩), .int .u64 150] 124)) (by simp)
 have hlt : 0 < w.heap.size := by
  rcases Nat.eq_zero_or_pos w.heap.size with h0 | h
  ·simp [World.cell?, h0] at hg
  ·exact h
 have hg2 : ((w.alloc (.cells #[.pointer (some t)] 112)).alloc (.cells #[.pointer (some ⟨1, 112, none⟩), .pointer (some ⟨w.heap.size, 0, none⟩), .int .u64 150] 124)).cell? ⟨0, 0, none⟩ = some (.iface 144 (.agg #[.pointer (some ⟨1, 108, none⟩)])) := by
  rw [World.cell?_alloc_lt _ _ ⟨0, 0, none⟩ (by simp), World.cell?_alloc_lt _ _ ⟨0, 0, none⟩ hlt]; exact hg
 have htl : t.block < w.heap.size := by
  rcases Nat.lt_or_ge t.block w.heap.size with h | h
  ·exact h
  ·simp [World.cell?, Array.getElem?_eq_none h] at ht0
 have el := as_elemV27 ⟨w.heap.size, 0, none⟩ t (((w.alloc (.cells #[.pointer (some t)] 112)).alloc (.cells #[.pointer (some ⟨1, 112, none⟩), .pointer (some ⟨w.heap.size, 0, none⟩), .int .u64 150] 124)).alloc (.cells #[.pointer (some ⟨1, 112, none⟩), .pointer (some ⟨w.heap.size, 0, none⟩), .int .u64 150] 124)) (by rw [World.cell?_alloc_lt _ _ ⟨w.heap.size, 0, none⟩ (by simp; omega)]; simp)
 have st := as_set25 t ⟨w.heap.size + 1 + 1 + 1, 0, none⟩ e old ((((w.alloc (.cells #[.pointer (some t)] 112)).alloc (.cells #[.pointer (some ⟨1, 112, none⟩), .pointer (some ⟨w.heap.size, 0, none⟩), .int .u64 150] 124)).alloc (.cells #[.pointer (some ⟨1, 112, none⟩), .pointer (some ⟨w.heap.size, 0, none⟩), .int .u64 150] 124)).alloc (.cells #[.pointer (some e)] 110))
  (by rw [World.cell?_alloc_at _ _ _ _ (by simp)]; rfl)
  (by rw [World.cell?_alloc_lt _ _ t (by simp; omega), World.cell?_alloc_lt _ _ t (by simp; omega), World.cell?_alloc_lt _ _ t (by simp; omega), World.cell?_alloc_lt _ _ t htl]; exact ht0)
  (by rw [World.frozen?_alloc_old _ _ t (by simp; omega), World.frozen?_alloc_old _ _ t (by simp; omega), World.frozen?_alloc_old _ _ t (by simp; omega), World.frozen?_alloc_old _ _ t (Nat.ne_of_lt htl)]; exact hf0)
 go_enter Tryz.func87, Tryz.ntmps87
 go_wp2
 refine wp_loop_rounds 1 ?_
 rw [rounds_succ]
 go_wp2
 go_ret
 exact ⟨rfl, rfl⟩
end Go.Proofs.YtbefbhghmommhaaGreatDoor.MWo
namespace Go.Proofs.YtbefbhghmommhaaGreatDoor.MWo
open Go.RowKit Go.Proofs.YtbefbhghmommhaaGreatDoorW.PrintWords Go.Proofs.YtbefbhghmommhaaGreatDoorW.PrintLast Go.Proofs.YtbefbhghmommhaaGreatDoorW.PrintMore
attribute [local go_sem] mp_u32s mp_u32m mp_u8s mp_u8m max2_int min2_int max_two min_two max_three min_three max_four min_four
set_option linter.unusedVariables false
set_option linter.unusedSimpArgs false
def bits_Mul64.f (a0 : Int) (a1 : Int) : Option (Int × Int) := some (IntKind.u64.wrap ((IntKind.u64.wrap ((IntKind.u64.wrap ((a0 / 4294967296) * (a1 / 4294967296))) + ((IntKind.u64.wrap ((IntKind.u64.wrap ((a0 / 4294967296) * (Go.bits .and .u64 a1 4294967295))) + ((IntKind.u64.wrap ((Go.bits .and .u64 a0 4294967295) * (Go.bits .and .u64 a1 4294967295))) / 4294967296))) / 4294967296))) + ((IntKind.u64.wrap ((Go.bits .and .u64 (IntKind.u64.wrap ((IntKind.u64.wrap ((a0 / 4294967296) * (Go.bits .and .u64 a1 4294967295))) + ((IntKind.u64.wrap ((Go.bits .and .u64 a0 4294967295) * (Go.bits .and .u64 a1 4294967295))) / 4294967296))) 4294967295) + (IntKind.u64.wrap ((Go.bits .and .u64 a0 4294967295) * (a1 / 4294967296))))) / 4294967296)), IntKind.u64.wrap (a0 * a1))
set_option maxHeartbeats 8000000 in
set_option maxRecDepth 100000 in
theorem bits_Mul64.calls (a0 : Int) (a1 : Int) (r1 : Int) (r2 : Int) (w : World) (h : bits_Mul64.f a0 a1 = some (r1, r2)) :
  Calls Tryz.prog 118 #[.int .u64 a0, .int .u64 a1] w fun e w' => e = .returned (.tuple #[.int .u64 r1, .int .u64 r2]) ∧ Drawn0 w w' := by
 have H : (some (IntKind.u64.wrap ((IntKind.u64.wrap ((IntKind.u64.wrap ((a0 / 4294967296) * (a1 / 4294967296))) + ((IntKind.u64.wrap ((IntKind.u64.wrap ((a0 / 4294967296) * (Go.bits .and .u64 a1 4294967295))) + ((IntKind.u64.wrap ((Go.bits .and .u64 a0 4294967295) * (Go.bits .and .u64 a1 4294967295))) / 4294967296))) / 4294967296))) + ((IntKind.u64.wrap ((Go.bits .and .u64 (IntKind.u64.wrap ((IntKind.u64.wrap ((a0 / 4294967296) * (Go.bits .and .u64 a1 4294967295))) + ((IntKind.u64.wrap ((Go.bits .and .u64 a0 4294967295) * (Go.bits .and .u64 a1 4294967295))) / 4294967296))) 4294967295) + (IntKind.u64.wrap ((Go.bits .and .u64 a0 4294967295) * (a1 / 4294967296))))) / 4294967296)), IntKind.u64.wrap (a0 * a1))) = some (r1, r2) := h
 clear h
 simp only [Option.some.injEq, Prod.mk.injEq] at H
 obtain ⟨rfl, rfl⟩ := H
 go_enter Tryz.func118, Tryz.ntmps118
 go_wp2
 go_ret2
 exact ⟨sd, dn⟩
def bits_Mul.f (a0 : Int) (a1 : Int) : Option (Int × Int) := (bits_Mul64.f a0 a1).bind fun bt112 => (some (bt112.1, bt112.2))
set_option maxHeartbeats 8000000 in
set_option maxRecDepth 100000 in
theorem bits_Mul.calls (a0 : Int) (a1 : Int) (r1 : Int) (r2 : Int) (w : World) (h : bits_Mul.f a0 a1 = some (r1, r2)) :
  Calls Tryz.prog 115 #[.int .u64 a0, .int .u64 a1] w fun e w' => e = .returned (.tuple #[.int .u64 r1, .int .u64 r2]) ∧ Drawn0 w w' := by
 have H : ((bits_Mul64.f a0 a1).bind fun bt112 => (some (bt112.1, bt112.2))) = some (r1, r2) := h
 clear h
 replace H := bS H
 obtain ⟨⟨t112, t113⟩, A30, H⟩ := H
 replace H : (some (t112, t113)) = some (r1, r2) := H
 have A3 := am A30
 clear A30
 simp only [Option.some.injEq, Prod.mk.injEq] at H
 obtain ⟨rfl, rfl⟩ := H
 go_enter Tryz.func115, Tryz.ntmps115
 go_wp2_with (first | ((with_reducible refine gate_callee (f := 118) rfl ?_); refine goesL_ (some 25) rfl rfl Tryz.func118 (by kernel_rfl) rfl #[.int .u64 a0, .int .u64 a1] rfl lm ?_; (with_reducible refine (bits_Mul64.calls a0 a1 t112 t113 _ A3.out).mono ?_); rintro e w' ⟨rfl, ⟨nd, rfl⟩⟩; refine ⟨_, rfl, ?_⟩))
 go_ret2
 exact ⟨sd, dn⟩
end Go.Proofs.YtbefbhghmommhaaGreatDoor.MWo
set_option linter.unusedVariables false
set_option linter.unusedSimpArgs false
namespace Go.Proofs.YtbefbhghmommhaaGreatDoor.MWo
open Go.RowKit Go.Proofs.YtbefbhghmommhaaGreatDoorW.PrintWords Go.Proofs.YtbefbhghmommhaaGreatDoorW.PrintLast Go.Proofs.YtbefbhghmommhaaGreatDoorW.PrintMore
theorem mul_one_ {n : Int} (h1 : 1 ≤ n) (h6 : n ≤ 6) : bits_Mul.f 1 n = some (0, n) := by
 rcases (show n = 1 ∨ n = 2 ∨ n = 3 ∨ n = 4 ∨ n = 5 ∨ n = 6 from by omega) with rfl | rfl | rfl | rfl | rfl | rfl <;> kernel_rfl
theorem blk_sets {t : Nat} {g : Nat} : ∀ (vs : List Value) (o : Nat) (w : World) (cur : Array Value), w.heap[g]? = some (.cells cur t (0, 0)) → o + vs.length ≤ cur.size →
  ∃ cur', (w.setCells g o vs).heap[g]? = some (.cells cur' t (0, 0)) ∧ cur'.size = cur.size ∧ (∀ j, j < o → cur'[j]? = cur[j]?) ∧ (∀ j v, vs[j]? = some v → cur'[o + j]? = some v)
 | [], o, w, cur, h, hl => ⟨cur, h, rfl, fun _ _ => rfl, fun j v hj => by simp at hj⟩
 | x :: vs, o, w, cur, h, hl => by
  simp only [List.length_cons] at hl
  have h1 := blk_set h o x
  obtain ⟨cur', h2, h3, h4, h5⟩ := blk_sets vs (o + 1) (w.setCell ⟨g, o, none⟩ x) _ h1 (by simp; omega)
  refine ⟨cur', h2, by rw [h3]; simp, fun j hj => ?_, fun j v hj => ?_⟩
  ·rw [h4 j (by omega)]
   simp [Array.getElem?_setIfInBounds, show ¬ o = j by omega]
  ·cases j with
   | zero =>
    simp at hj
    rw [Nat.add_zero, h4 o (by omega), ← hj]
    simp [Array.getElem?_setIfInBounds, show o < cur.size by omega]
   | succ j =>
    have := h5 j v (by simpa using hj)
    rw [show o + (j + 1) = o + 1 + j by omega]
    exact this
theorem below_sets {B g : Nat} {w0 : World} : ∀ (vs : List Value) (o : Nat) (w : World), Below B w0 w → B ≤ g → Below B w0 (w.setCells g o vs)
 | [], _, _, h, _ => h
 | v :: r, o, w, h, hb => below_sets r (o + 1) _ (h.setCell hb v) hb
def Part (W : World) (B n k : Nat) (v : Int) : Prop := ∃ cur, W.heap[B]? = some (.cells cur 3 (0, 0)) ∧ cur.size = n ∧ ∀ j, j < k → cur[j]? = some (.int .i64 v)
theorem Part.more {W : World} {B n k m : Nat} {v : Int} (h : Part W B n k v) (hm : k + m ≤ n) : Part (W.setCells B k (List.replicate m (.int .i64 v))) B n (k + m) v := by
 obtain ⟨cur, h1, h2, h3⟩ := h
 obtain ⟨cur', g1, g2, g3, g4⟩ := blk_sets (List.replicate m (.int .i64 v)) k W cur h1 (by rw [List.length_replicate, h2]; exact hm)
 refine ⟨cur', g1, by rw [g2, h2], fun j hj => ?_⟩
 by_cases c : j < k
 ·rw [g3 j c, h3 j c]
 ·have := g4 (j - k) (.int .i64 v) (by rw [List.getElem?_replicate, if_pos (by omega)])
  rw [show k + (j - k) = j by omega] at this
  exact this
theorem Part.row {W : World} {B n : Nat} {v : Int} (h : Part W B n n v) (base : Nat) (hb : base ≤ B) (hn : n ≤ 1000) : Kd.R (Kd.int .i64) 3 W base (fun _ => True) (.slice (some ⟨B, 0, none⟩) n n) (List.replicate n v) := by
 obtain ⟨cur, h1, h2, h3⟩ := h
 refine Kd.R_of_own ?_ (fun _ _ => trivial)
 rw [List.length_replicate]
 refine ⟨by simp [encs], .inr ⟨B, n, cur, rfl, hb, h1, Nat.le_refl _, by unfold maxLen; omega, by rw [h2, Nat.mul_one], ?_⟩⟩
 apply List.ext_getElem?
 intro j
 by_cases hj : j < n
 ·rw [List.getElem?_take, if_pos (by omega), Array.getElem?_toList, h3 j hj]
  simp [encs, hj]
 ·rw [List.getElem?_take, if_neg (by omega)]
  symm
  rw [List.getElem?_eq_none_iff]
  simp [encs]
  omega
theorem Part.copy {W : World} {B n k : Nat} {v : Int} (h : Part W B n k v) (hk : k ≤ n) (c1 c2 : Nat) : (Builtin.copy_ #[33, 33] 3 #[.slice (some ⟨B, k, none⟩) (n - k) c1, .slice (some ⟨B, 0, none⟩) k c2]).run Tryz.prog W = .ok (goInt (Nat.min k (n - k))) (W.setCells B k (List.replicate (Nat.min k (n - k)) (.int .i64 v))) := by
 obtain ⟨cur, h1, h2, h3⟩ := h
 have hm1 : Nat.min k (n - k) ≤ k := Nat.min_le_left _ _
 have hm2 : Nat.min k (n - k) ≤ n - k := Nat.min_le_right _ _
 have := run_copy_cells (P := Tryz.prog) W 33 33 3 3 B k (n - k) c1 ⟨B, 0, none⟩ k c2 (List.replicate (Nat.min k (n - k)) (.int .i64 v)) Tryz.underlying33 (by kernel_rfl) (by rw [List.length_replicate])
  (fun j u hj => by
   rw [List.getElem?_replicate] at hj
   split at hj
   ·rename_i hlt
    injection hj with hj
    subst hj
    have e : (⟨B, 0, none⟩ : Addr).add j = ⟨B, j, none⟩ := by simp [Addr.add]; intro h; omega
    rw [e]
    exact (blk_cell h1 j).trans (h3 j (by omega))
   ·cases hj)
  (fun j hj => by
   rw [List.length_replicate] at hj
   rw [blk_cell h1]
   rw [Array.getElem?_eq_getElem (by omega)]
   rfl)
  (fun j hj => blk_frozen h1 _)
  (fun u hu => by rw [List.eq_of_mem_replicate hu]; rfl)
 rw [List.length_replicate] at this
 exact this
set_option maxHeartbeats 4000000 in
set_option maxRecDepth 4000 in
theorem repeat_walk (A0 : Option Addr) (c0 : Nat) (v : Int) (n : Nat) (w : World) (hr : Kd.C (Kd.int .i64) w A0 1 [v]) (h1 : 1 ≤ n) (h6 : n ≤ 6) :
  Calls Tryz.prog 109 #[.slice A0 1 c0, .int .i64 n] w fun e w' => ∃ u, e = .returned u ∧ Kd.R (Kd.int .i64) 3 w' w.heap.size (fun _ => True) u (List.replicate n v) ∧ Below w.heap.size w w' := by
 have HM := am (mul_one_ (n := (n : Int)) (by omega) (by omega))
 have hd0 : decide ((n : Int) < 0) = false := dF (by omega)
 have hd1 : decide ((9223372036854775807 : Int) < (n : Int)) = false := dF (by omega)
 have hm1 : (n : Int) % 18446744073709551616 = n := by omega
 have hm2 : wrap64 (n : Int) = n := by unfold wrap64; omega
 obtain ⟨ad, e, x0⟩ := Kd.at_int hr 0 (by omega) (by omega)
 cases e
 have HX := am x0
 have H1 := am h1
 have H6 := am h6
 clear hr x0 h1 h6
 go_enter Tryz.func109, Tryz.ntmps109
 go_wp2_with fail
 refine (bits_Mul.calls 1 (n : Int) 0 n _ HM.out).mono ?_
 rintro e w1 ⟨rfl, hD⟩
 have HB := am hD.below
 have hx1 : w1.cell? ad = some (.int .i64 v) := (hD.below.cell (p := ad) (block_lt_of_cell HX.out)).trans HX.out
 clear hD
 obtain ⟨i0, hi, hz⟩ := Option.map_eq_some_iff.1 info3
 simp only [Prod.mk.injEq] at hz
 have hmk := run_make (P := Tryz.prog) w1 33 3 i0 (.int .i64 0) Tryz.underlying33 hi hz.1 .i64 .i64 n n (by omega) (Int.le_refl _) (by rw [hz.2.2]; have := H6.out; omega) (by have := H6.out; omega)
 rw [hz.2.1, Nat.mul_one, Int.toNat_natCast] at hmk
 have hP0 : Part (w1.alloc (.cells (madeCells (Value.int IntKind.i64 0).cells n) 3)) w1.heap.size n 0 v := ⟨_, heap_alloc_new _ _, size_madeCells _ _, fun j hj => absurd hj (by omega)⟩
 have HB2 := am (below_alloc HB.out (Obj.cells (madeCells (Value.int IntKind.i64 0).cells n) 3))
 have hx2 : (w1.alloc (.cells (madeCells (Value.int IntKind.i64 0).cells n) 3)).cell? ad = some (.int .i64 v) := ((below_alloc (Below.refl w1.heap.size w1) _).cell (p := ad) (block_lt_of_cell hx1)).trans hx1
 generalize w1.alloc (.cells (madeCells (Value.int IntKind.i64 0).cells n) 3) = w2 at *
 have HBb := am HB.out.size
 generalize w1.heap.size = B at *
 have hcp : (Builtin.copy_ #[33, 33] 3 #[.slice (some ⟨B, 0, none⟩) n n, .slice (some ad) 1 c0]).run Tryz.prog w2 = .ok (goInt 1) (w2.setCells B 0 [.int .i64 v]) := by
  obtain ⟨cur, g1, g2, _⟩ := hP0
  refine run_copy_cells (P := Tryz.prog) w2 33 33 3 3 B 0 n n ad 1 c0 [.int .i64 v] Tryz.underlying33 (by kernel_rfl) (by show 1 = min 1 n; have := H1.out; omega) (fun j u hj => ?_) (fun j hj => ?_) (fun j hj => blk_frozen g1 _) (fun u hu => by rw [List.mem_singleton.1 hu]; rfl)
  ·match j, hj with
   | 0, hj => simp at hj; rw [← hj]; exact hx2
   | j + 1, hj => simp at hj
  ·have hj0 : j = 0 := by simpa using hj
   subst hj0
   rw [blk_cell g1, Array.getElem?_eq_getElem (by have := H1.out; omega)]
   rfl
 have hP1 := am (hP0.more (m := 1) (by have := H1.out; omega))
 have HB3 := am (below_sets [.int .i64 v] 0 w2 HB2.out HBb.out)
 have hsz : i0.size = 1 := hz.2.1
 have HCF := am (fun (k : Nat) (h0 : k < n) => cut_from (P := Tryz.prog) 33 3 .i64 Tryz.underlying33 hi 1 hsz (some ⟨B, 0, none⟩) n n (k : Int) (by omega) (by omega))
 have HCT := am (fun (k : Nat) (h0 : k ≤ n) => cut_to (P := Tryz.prog) 33 3 .i64 Tryz.underlying33 hi (some ⟨B, 0, none⟩) n n (k : Int) (by omega) (by omega) (Nat.le_refl _))
 clear hP0 hx1 hx2 hi hz
 go_wp2_with fail
 clear hcp hmk hm1 hm2 hd0 hd1 HX
 go_loopg [8] n (fun kq v8 w' => ∃ k : Nat, v8 = .int .i64 k ∧ Aside0 (n ≤ kq + k) ∧ Aside0 (1 ≤ k ∧ k ≤ n) ∧ Aside0 (Below w.heap.size w w') ∧ Aside0 (Part w' B n k v))
 case atStart => exact ⟨1, rfl, ⟨by omega⟩, ⟨by have := H1.out; omega⟩, HB3, hP1⟩
 case round =>
  clear HB3 hP1
  obtain ⟨k, rfl, HK, HKn, HBr, hPr⟩ := hrel
  by_cases hk : k < n
  ·have hlt : decide ((k : Int) < (n : Int)) = true := dT (by omega)
   have cf := HCF.out k hk
   have ct := HCT.out k (Nat.le_of_lt hk)
   rw [if_neg (by have := HKn.out; omega)] at cf
   simp only [Int.toNat_natCast, Option.map_some] at cf ct
   rw [show ((⟨B, 0, none⟩ : Addr).add (k * 1)) = ⟨B, k, none⟩ by simp [Addr.add]; intro h; omega] at cf
   have HBd := am (below_drew HBr.out)
   have hPd : Aside0 (Part wr.drew B n k v) := ⟨hPr.out⟩
   have hcp := hPd.out.copy (Nat.le_of_lt hk) (n - k) n
   obtain ⟨m, hm⟩ : ∃ m, Nat.min k (n - k) = m := ⟨_, rfl⟩
   have Hm := am hm
   have HmB : Aside0 (1 ≤ m ∧ k + m ≤ n) := ⟨by have := HKn.out; have h1 := Nat.min_le_right k (n - k); have h2 : Nat.min k (n - k) = min k (n - k) := rfl; omega⟩
   rw [hm] at hcp
   clear hm
   have hw : wrap64 ((k : Int) + (m : Int)) = (k : Int) + m := by have := HmB.out; have := H6.out; unfold wrap64; omega
   cases gk with
   | zero => exact absurd HK.out (by omega)
   | succ k1 =>
   go_wp2_with fail
   refine start_ (n := 10) (S := fun w' => True) (ds := []) #[false, false, false, false, false, false, false, false, false, false] (by kernel_rfl) rfl rfl trivial (fun hHeld => ?_)
   generalize wr.drew = wd at HBd hPd hcp hHeld ⊢
   refine pu 0 38 ?_
   refine pu 1 39 ?_
   refine pu 2 40 ?_
   refine pu 3 41 ?_
   refine pu 4 42 ?_
   refine pu 5 43 ?_
   refine pu 6 44 ?_
   refine on 7 45 (fun K hK => ?_)
   refine value_ (w1 := ?_) (v := ?_) (by rfl) rfl ?_ ?_
   rotate_left 2
   ·go_simp
    constructor
    ·rfl
    ·rfl
   have HB4 := am (below_sets (List.replicate m (.int .i64 v)) k wd HBd.out HBb.out)
   have hP4 := am (hPd.out.more (m := m) HmB.out.2)
   refine hK.out _ _ trivial (fun hHeld => ?_)
   clear hK K
   refine norm_ (a' := ?_) ?_ ?_
   rotate_left
   ·show Act.put _ (some 45) _ = _
    simp only [Act.put, sAa, sBb, sCc, i64_w, i32_w]
    rfl
   refine pu 8 46 ?_
   refine pu 9 8 ?_
   refine done_ (by kernel_rfl) ?_
   go_wp2_with fail
   go_roundg k1
   case measure => have := HK.out; have := HmB.out; omega
   case rel => exact ⟨k + m, (by first | rfl | simp), ⟨by have := HK.out; have := HmB.out; omega⟩, ⟨by have := HmB.out; omega⟩, HB4, hP4⟩
  ·have hkn : k = n := by have := HKn.out; omega
   subst hkn
   have hlt : decide ((k : Int) < (k : Int)) = false := dF (by omega)
   go_wp2_with fail
   go_ret
   exact ⟨_, rfl, hPr.out.row _ HBb.out (by have := H6.out; omega), HBr.out⟩
end Go.Proofs.YtbefbhghmommhaaGreatDoor.MWo
namespace Go.Proofs.YtbefbhghmommhaaGreatDoor.MWo
open Go.RowKit Go.Proofs.YtbefbhghmommhaaGreatDoorW.PrintWords Go.Proofs.YtbefbhghmommhaaGreatDoorW.PrintLast Go.Proofs.YtbefbhghmommhaaGreatDoorW.PrintMore
attribute [local go_sem] mp_u32s mp_u32m mp_u8s mp_u8m max2_int min2_int max_two min_two max_three min_three max_four min_four
set_option linter.unusedVariables false
set_option linter.unusedSimpArgs false
def slices_Repeat_int_int.f (l0 : List Int) (a1 : Int) : Option (List Int) := if l0.length = 1 ∧ 1 ≤ a1 ∧ a1 ≤ 6 then some (List.replicate a1.toNat (l0.headD 0)) else none
theorem slices_Repeat_int_int.calls (A0 : Option Addr) (c0 : Nat) (l0 : List Int) (a1 : Int) (r : List Int) (w : World) (hr0 : Kd.C (Kd.int .i64) w A0 l0.length l0) (hc0 : l0.length ≤ c0) (h : slices_Repeat_int_int.f l0 a1 = some r) :
  Calls Tryz.prog 109 #[.slice A0 l0.length c0, .int .i64 a1] w fun e w' => ∃ v, e = .returned v ∧ Kd.R (Kd.int .i64) 3 w' w.heap.size (fun _ => True) v r ∧ Below w.heap.size w w' := by
 unfold slices_Repeat_int_int.f at h
 split at h
 ·rename_i hc
  obtain ⟨h1, h2, h3⟩ := hc
  injection h with h
  subst h
  obtain ⟨n, hn⟩ := Int.eq_ofNat_of_zero_le (show 0 ≤ a1 by omega)
  subst hn
  match l0, h1 with
  | [v], _ => exact repeat_walk A0 c0 v n w hr0 (by omega) (by omega)
 ·cases h
end Go.Proofs.YtbefbhghmommhaaGreatDoor.MWo
