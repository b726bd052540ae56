/- Texts of this claim, laid together by a program (wip/e/merge2.py): PuQe, HNu, HAs, Sum, PuSum. -/
import Derived.Test.YtaaifdclojkdmaaGreatDoorZFz5
import Derived.Test.YtaaifdclojkdmaaGreatDoorZFz6
import Derived.Test.YtaaifdclojkdmaaGreatDoorZFz3
import Derived.Test.YtaaifdclojkdmaaGreatDoorZFz10
import Derived.Test.YtaaifdclojkdmaaGreatDoorZFz9
import Derived.Test.YtaaifdclojkdmaaGreatDoorZFz12
import Derived.Test.YtaaifdclojkdmaaGreatDoorZFz13
import Derived.Test.YtaaifdclojkdmaaGreatDoorZFz4
set_option linter.unusedVariables false
set_option linter.unusedSimpArgs false
set_option maxRecDepth 100000
namespace Go.Proofs.YtaaifdclojkdmaaGreatDoor.MFr
namespace Dq
open Go.RowKit Go.Proofs.YtaaifdclojkdmaaGreatDoorW.PrintWords Go.Proofs.YtaaifdclojkdmaaGreatDoorW.PrintLast Go.Proofs.YtaaifdclojkdmaaGreatDoorW.PrintMore Go.Proofs.YtaaifdclojkdmaaGreatDoor.Wire Go.Proofs.YtaaifdclojkdmaaGreatDoor.Evl
variable {l : List Int} {s t : St}
def E2 (s t : St) : Prop := s.at_ = t.at_ ∧ s.e = t.e ∧ (s.e ≠ 0 → s.ea = t.ea)
theorem E2.refl (s : St) : E2 s s := ⟨rfl, rfl, fun _ => rfl⟩
theorem E2.begin (h : E2 s t) (n : Int) : E2 (enoughS l s n) (beginS l t n) := by
 obtain ⟨sa, se, sea⟩ := s
 obtain ⟨ta, te, tea⟩ := t
 obtain ⟨h1, h2, h3⟩ := h
 simp only at h1 h2 h3
 subst h1 h2
 unfold enoughS beginS
 by_cases h0 : se = 0
 ·subst h0
  by_cases hs : (l.length : Int) - sa < n
  ·rw [if_pos ⟨rfl, hs⟩, if_pos rfl, if_pos hs]; exact E2.refl _
  ·rw [if_neg (fun k => hs k.2), if_pos rfl, if_neg hs]; exact ⟨rfl, rfl, fun k => absurd rfl k⟩
 ·rw [if_neg (fun k => h0 k.1), if_neg h0]; exact ⟨rfl, rfl, h3⟩
theorem E2.num (h : E2 s t) (w lo hi : Int) : E2 (plainS l s w lo hi) (numS l t w lo hi) ∧ ((plainS l s w lo hi).e = 0 → plainN l s w = numN l t w lo hi) := by
 have hb := h.begin (l := l) w
 have ha := h.1
 by_cases h0 : (enoughS l s w).e = 0
 ·have h1 : (beginS l t w).e = 0 := hb.2.1 ▸ h0
  by_cases hr : lo ≤ numR (cut l s.at_ w) ∧ numR (cut l s.at_ w) ≤ hi
  ·have e1 : plainS l s w lo hi = ⟨s.at_ + w, 0, s.ea⟩ := by unfold plainS; rw [if_pos h0, if_pos hr]
   have e2 : numS l t w lo hi = ⟨t.at_ + w, 0, t.at_⟩ := by unfold numS; rw [if_pos h1, ← ha, if_pos hr]
   refine ⟨by rw [e1, e2, ha]; exact ⟨rfl, rfl, fun k => absurd rfl k⟩, fun _ => ?_⟩
   unfold plainN numN
   rw [if_pos h0, e2, if_pos rfl, ha]
  ·have e1 : plainS l s w lo hi = ⟨s.at_ + w, 6, s.at_⟩ := by unfold plainS; rw [if_pos h0, if_neg hr]
   have e2 : numS l t w lo hi = ⟨t.at_ + w, 6, t.at_⟩ := by unfold numS; rw [if_pos h1, ← ha, if_neg hr]
   exact ⟨by rw [e1, e2, ha]; exact E2.refl _, fun k => by rw [e1] at k; exact absurd k (show ¬ ((6 : Int) = 0) by decide)⟩
 ·have h1 : (beginS l t w).e ≠ 0 := hb.2.1 ▸ h0
  have e1 : plainS l s w lo hi = enoughS l s w := if_neg h0
  have e2 : numS l t w lo hi = beginS l t w := if_neg h1
  exact ⟨by rw [e1, e2]; exact hb, fun k => by rw [e1] at k; exact absurd k h0⟩
theorem E2.ofs (h : E2 s t) : E2 (signedS l s 6) (ofsS l t) ∧ ((signedS l s 6).e = 0 → signedN l s 6 = ofsN l t) := by
 have hb := h.begin (l := l) 6
 have ha := h.1
 by_cases h0 : (enoughS l s 6).e = 0
 ·have h1 : (beginS l t 6).e = 0 := hb.2.1 ▸ h0
  by_cases hr : -1099511627776 ≤ offR (cut l s.at_ 6) ∧ offR (cut l s.at_ 6) ≤ 1099511627776
  ·have e1 : signedS l s 6 = ⟨s.at_ + 6, 0, s.ea⟩ := by unfold signedS; rw [if_pos h0, if_pos hr]
   have e2 : ofsS l t = ⟨t.at_ + 6, 0, t.at_⟩ := by unfold ofsS; rw [if_pos h1, ← ha, if_pos hr]
   refine ⟨by rw [e1, e2, ha]; exact ⟨rfl, rfl, fun k => absurd rfl k⟩, fun _ => ?_⟩
   unfold signedN ofsN
   rw [if_pos h0, e2, if_pos rfl, ha]
  ·have e1 : signedS l s 6 = ⟨s.at_ + 6, 6, s.at_⟩ := by unfold signedS; rw [if_pos h0, if_neg hr]
   have e2 : ofsS l t = ⟨t.at_ + 6, 6, t.at_⟩ := by unfold ofsS; rw [if_pos h1, ← ha, if_neg hr]
   exact ⟨by rw [e1, e2, ha]; exact E2.refl _, fun k => by rw [e1] at k; exact absurd k (show ¬ ((6 : Int) = 0) by decide)⟩
 ·have h1 : (beginS l t 6).e ≠ 0 := hb.2.1 ▸ h0
  have e1 : signedS l s 6 = enoughS l s 6 := if_neg h0
  have e2 : ofsS l t = beginS l t 6 := if_neg h1
  exact ⟨by rw [e1, e2]; exact hb, fun k => by rw [e1] at k; exact absurd k h0⟩
theorem enough_e0 {n : Int} (h : (enoughS l s n).e = 0) : s.e = 0 := (enough_yes h).1
theorem signedS_e0 (h : (signedS l s 6).e = 0) : s.e = 0 := by
 unfold signedS at h
 split at h
 ·rename_i k
  exact enough_e0 k
 ·exact enough_e0 h
theorem begin_no {n : Int} (h : t.e ≠ 0) : beginS l t n = t := if_neg h
theorem numS_no {w lo hi : Int} (h : t.e ≠ 0) : numS l t w lo hi = t := by
 unfold numS
 rw [begin_no h, if_neg h]
theorem agesQ_no : ∀ (n : Nat) (acc : List Int), t.e ≠ 0 → (agesQ l n t acc).2 = t
 | 0, _, _ => rfl
 | n + 1, acc, h => by
  show (agesQ l n (numS l t 1 0 201) _).2 = t
  rw [numS_no h]
  exact agesQ_no n _ h
theorem agesR_no : ∀ (n : Nat) (acc : List Int), s.e ≠ 0 → (agesR l n s acc).2 = s
 | 0, _, _ => rfl
 | n + 1, acc, h => by
  show (if s.e = 0 then _ else (acc, s)).2 = s
  rw [if_neg h]
theorem ages_e : ∀ (n : Nat) (s t : St) (acc : List Int), E2 s t → E2 (agesR l n s acc).2 (agesQ l n t acc).2 ∧ ((agesR l n s acc).2.e = 0 → (agesR l n s acc).1 = (agesQ l n t acc).1)
 | 0, s, t, acc, h => ⟨h, fun _ => rfl⟩
 | n + 1, s, t, acc, h => by
  by_cases h0 : s.e = 0
  ·have hn := h.num (l := l) 1 0 201
   have e1 : agesR l (n + 1) s acc = agesR l n (plainS l s 1 0 201) (acc ++ [plainN l s 1]) := if_pos h0
   have e2 : agesQ l (n + 1) t acc = agesQ l n (numS l t 1 0 201) (acc ++ [numN l t 1 0 201]) := rfl
   rw [e1, e2]
   by_cases h1 : (plainS l s 1 0 201).e = 0
   ·rw [hn.2 h1]
    exact ages_e n _ _ _ hn.1
   ·have h2 : (numS l t 1 0 201).e ≠ 0 := hn.1.2.1 ▸ h1
    rw [agesR_no n _ h1, agesQ_no n _ h2]
    exact ⟨hn.1, fun k => absurd k h1⟩
  ·have h1 : t.e ≠ 0 := h.2.1 ▸ h0
   rw [agesR_no _ _ h0, agesQ_no _ _ h1]
   exact ⟨h, fun k => absurd k h0⟩
theorem E2.ages (h : E2 s t) : E2 (agesF l s).2 (agesG l t).2 ∧ ((agesF l s).2.e = 0 → (agesF l s).1 = (agesG l t).1) := by
 have hn := h.num (l := l) 1 1 6
 unfold agesF agesG
 by_cases h1 : (plainS l s 1 1 6).e = 0
 ·rw [hn.2 h1]
  exact ages_e _ _ _ _ hn.1
 ·have h2 : (numS l t 1 1 6).e ≠ 0 := hn.1.2.1 ▸ h1
  rw [agesR_no _ _ h1, agesQ_no _ _ h2]
  exact ⟨hn.1, fun k => absurd k h1⟩
theorem agesF_e0 (h : (agesF l s).2.e = 0) : s.e = 0 := by
 unfold agesF at h
 by_cases h1 : (plainS l s 1 1 6).e = 0
 ·exact (plainS_e0 h1).1
 ·rw [agesR_no _ _ h1] at h
  exact absurd h h1
theorem E2.body (h : E2 s t) : E2 (bodyF l s).2 (bodyG l t).2 ∧ ((bodyF l s).2.e = 0 → (bodyF l s).1 = (bodyG l t).1) := by
 have hn := h.num (l := l) 1 0 24
 by_cases h1 : (plainS l s 1 0 24).e = 0
 ·have hv := hn.2 h1
  have hb := hn.1.begin (l := l) (plainN l s 1)
  unfold bodyF bodyG
  rw [← hv, ← hn.1.1]
  by_cases h2 : (enoughS l (plainS l s 1 0 24) (plainN l s 1)).e = 0
  ·rw [if_pos h2, if_pos (hb.2.1 ▸ h2)]
   exact ⟨⟨rfl, rfl, fun k => absurd rfl k⟩, fun _ => rfl⟩
  ·rw [if_neg h2, if_neg (hb.2.1 ▸ h2)]
   exact ⟨hb, fun k => absurd k h2⟩
 ·have h2 : (numS l t 1 0 24).e ≠ 0 := hn.1.2.1 ▸ h1
  have e1 : ∀ n, enoughS l (plainS l s 1 0 24) n = plainS l s 1 0 24 := fun n => if_neg (fun k => h1 k.1)
  have e2 : ∀ n, beginS l (numS l t 1 0 24) n = numS l t 1 0 24 := fun n => begin_no h2
  unfold bodyF bodyG
  rw [e1, e2, if_neg h1, if_neg h2]
  exact ⟨hn.1, fun k => absurd k h1⟩
theorem bodyF_e0 (h : (bodyF l s).2.e = 0) : s.e = 0 := by
 unfold bodyF at h
 split at h
 ·rename_i k
  exact (plainS_e0 (enough_e0 k)).1
 ·rename_i k
  exact absurd h k
def fieldsG (l : List Int) (s : St) (k : Int) : Fr × St :=
 let p := numN l s 1 0 5
 let s1 := numS l s 1 0 5
 let n := numN l s1 1 0 11
 let s2 := numS l s1 1 0 11
 if k = 1 then (⟨1, p, n, numN l s2 2 0 60000, 0, 0, false, 0, 0, [], 0, 0, 0, []⟩, numS l s2 2 0 60000)
 else if k = 2 then
  let s3 := numS l s2 6 0 1099511627776
  let s4 := numS l s3 2 0 4095
  (⟨2, p, n, 0, numN l s3 2 0 4095, 0, false, numN l s2 6 0 1099511627776, 0, (agesG l s4).1, 0, 0, 0, []⟩, (agesG l s4).2)
 else
  let lk := numN l s2 1 0 9
  let s3 := numS l s2 1 0 9
  if k = 3 then
   let s4 := numS l s3 1 0 1
   let s5 := numS l s4 6 0 1099511627776
   (⟨3, p, n, 0, 0, lk, numN l s3 1 0 1 == 1, numN l s4 6 0 1099511627776, ofsN l s5, [], 0, 0, 0, []⟩, ofsS l s5)
  else if k = 4 then (⟨4, p, n, 0, 0, lk, false, 0, 0, (agesG l s3).1, 0, 0, 0, []⟩, (agesG l s3).2)
  else
   let s4 := numS l s3 1 0 5
   let s5 := numS l s4 1 0 5
   let s6 := numS l s5 4 1 2147483648
   (⟨5, p, n, 0, 0, lk, false, 0, 0, [], numN l s3 1 0 5, numN l s4 1 0 5, numN l s5 4 1 2147483648, (bodyG l s6).1⟩, (bodyG l s6).2)
theorem fields_e (h : E2 s t) (k : Int) : E2 (fieldsF l s k).2 (fieldsG l t k).2 ∧ ((fieldsF l s k).2.e = 0 → (fieldsF l s k).1 = (fieldsG l t k).1) := by
 have hp := h.num (l := l) 1 0 5
 have hn := hp.1.num (l := l) 1 0 11
 unfold fieldsF fieldsG
 dsimp only
 by_cases k1 : k = 1
 ·rw [if_pos k1, if_pos k1]
  have h1 := hn.1.num (l := l) 2 0 60000
  refine ⟨h1.1, fun e => ?_⟩
  have e2 := (plainS_e0 e).1
  have e1 := (plainS_e0 e2).1
  dsimp only at e ⊢
  rw [h1.2 e, hn.2 e2, hp.2 e1]
 rw [if_neg k1, if_neg k1]
 by_cases k2 : k = 2
 ·rw [if_pos k2, if_pos k2]
  have h1 := hn.1.num (l := l) 6 0 1099511627776
  have h2 := h1.1.num (l := l) 2 0 4095
  have h3 := h2.1.ages (l := l)
  refine ⟨h3.1, fun e => ?_⟩
  have e4 := agesF_e0 e
  have e3 := (plainS_e0 e4).1
  have e2 := (plainS_e0 e3).1
  have e1 := (plainS_e0 e2).1
  dsimp only at e ⊢
  rw [h3.2 e, h2.2 e4, h1.2 e3, hn.2 e2, hp.2 e1]
 rw [if_neg k2, if_neg k2]
 have h1 := hn.1.num (l := l) 1 0 9
 by_cases k3 : k = 3
 ·rw [if_pos k3, if_pos k3]
  have h2 := h1.1.num (l := l) 1 0 1
  have h3 := h2.1.num (l := l) 6 0 1099511627776
  have h4 := h3.1.ofs (l := l)
  refine ⟨h4.1, fun e => ?_⟩
  have e5 := signedS_e0 e
  have e4 := (plainS_e0 e5).1
  have e3 := (plainS_e0 e4).1
  have e2 := (plainS_e0 e3).1
  have e1 := (plainS_e0 e2).1
  dsimp only at e ⊢
  rw [h4.2 e, h3.2 e5, h2.2 e4, h1.2 e3, hn.2 e2, hp.2 e1]
 rw [if_neg k3, if_neg k3]
 by_cases k4 : k = 4
 ·rw [if_pos k4, if_pos k4]
  have h2 := h1.1.ages (l := l)
  refine ⟨h2.1, fun e => ?_⟩
  have e3 := agesF_e0 e
  have e2 := (plainS_e0 e3).1
  have e1 := (plainS_e0 e2).1
  dsimp only at e ⊢
  rw [h2.2 e, h1.2 e3, hn.2 e2, hp.2 e1]
 rw [if_neg k4, if_neg k4]
 have h2 := h1.1.num (l := l) 1 0 5
 have h3 := h2.1.num (l := l) 1 0 5
 have h4 := h3.1.num (l := l) 4 1 2147483648
 have h5 := h4.1.body (l := l)
 refine ⟨h5.1, fun e => ?_⟩
 have e6 := bodyF_e0 e
 have e5 := (plainS_e0 e6).1
 have e4 := (plainS_e0 e5).1
 have e3 := (plainS_e0 e4).1
 have e2 := (plainS_e0 e3).1
 have e1 := (plainS_e0 e2).1
 dsimp only at e ⊢
 rw [h5.2 e, h4.2 e6, h3.2 e5, h2.2 e4, h1.2 e3, hn.2 e2, hp.2 e1]
end Dq
end Go.Proofs.YtaaifdclojkdmaaGreatDoor.MFr
set_option linter.unusedVariables false
set_option linter.unusedSimpArgs false
set_option maxRecDepth 100000
namespace Go.Proofs.YtaaifdclojkdmaaGreatDoor.MFr
open Go.RowKit Go.Proofs.YtaaifdclojkdmaaGreatDoorW.PrintWords Go.Proofs.YtaaifdclojkdmaaGreatDoorW.PrintLast Go.Proofs.YtaaifdclojkdmaaGreatDoorW.PrintMore
set_option maxHeartbeats 4000000 in
theorem number0 (w : World) :
  Calls Tryz.prog 15 #[.nilIface] w fun ev w' => ev = .returned (.int .i64 0) ∧ Below w.heap.size w w' := by
 go_enter Tryz.func15, Tryz.ntmps15
 go_wp2_with fail
 have HB := Aside0.mk (below_alloc (Below.refl w.heap.size w) (Obj.cells #[.int .i64 2, .int .i64 4, .int .i64 5, .int .i64 6, .int .i64 3] 27))
 have HA : Aside0 ((w.alloc (Obj.cells #[.int .i64 2, .int .i64 4, .int .i64 5, .int .i64 6, .int .i64 3] 27)).heap[w.heap.size]? = some (Obj.cells #[.int .i64 2, .int .i64 4, .int .i64 5, .int .i64 6, .int .i64 3] 27)) := ⟨heap_alloc_new _ _⟩
 generalize w.alloc (Obj.cells #[.int .i64 2, .int .i64 4, .int .i64 5, .int .i64 6, .int .i64 3] 27) = wa at *
 obtain ⟨b, hb⟩ : ∃ b, b = w.heap.size := ⟨_, rfl⟩
 rw [← hb]
 rw [← hb] at HA
 have HBX := Aside0.mk hb
 clear hb
 obtain ⟨c0, c1, c2, c3, c4⟩ := cellsK5 HA.out
 refine wp_loop_rounds 6 ?_
 rw [rounds_succ]
 go_wp2_with fail
 refine (is_nil 2 _).mono ?_
 rintro e w1 ⟨rfl, rfl⟩
 go_wp2_with fail
 rw [rounds_succ]
 go_wp2_with fail
 refine (is_nil 4 _).mono ?_
 rintro e w1 ⟨rfl, rfl⟩
 go_wp2_with fail
 rw [rounds_succ]
 go_wp2_with fail
 refine (is_nil 5 _).mono ?_
 rintro e w1 ⟨rfl, rfl⟩
 go_wp2_with fail
 rw [rounds_succ]
 go_wp2_with fail
 refine (is_nil 6 _).mono ?_
 rintro e w1 ⟨rfl, rfl⟩
 go_wp2_with fail
 rw [rounds_succ]
 go_wp2_with fail
 refine (is_nil 3 _).mono ?_
 rintro e w1 ⟨rfl, rfl⟩
 go_wp2_with fail
 rw [rounds_succ]
 go_wp2_with fail
 go_ret
 exact ⟨rfl, HB.out⟩
set_option maxHeartbeats 4000000 in
theorem number2 (q : Nat) (ea : Int) (w : World) (h : w.heap[q]? = some (.cells #[.int .i64 ea, .iface 66 (.int .i64 2)] 53 (0, 0))) :
  Calls Tryz.prog 15 #[.iface 49 (.pointer (some ⟨q, 0, none⟩))] w fun ev w' => ev = .returned (.int .i64 2) ∧ Below w.heap.size w w' := by
 have HH := Aside0.mk h
 clear h
 go_enter Tryz.func15, Tryz.ntmps15
 go_wp2_with fail
 have HB := Aside0.mk (below_alloc (Below.refl w.heap.size w) (Obj.cells #[.int .i64 2, .int .i64 4, .int .i64 5, .int .i64 6, .int .i64 3] 27))
 have HA : Aside0 ((w.alloc (Obj.cells #[.int .i64 2, .int .i64 4, .int .i64 5, .int .i64 6, .int .i64 3] 27)).heap[w.heap.size]? = some (Obj.cells #[.int .i64 2, .int .i64 4, .int .i64 5, .int .i64 6, .int .i64 3] 27)) := ⟨heap_alloc_new _ _⟩
 have HQ := Aside0.mk ((HB.out.block q (blk_lt HH.out)).trans HH.out)
 generalize w.alloc (Obj.cells #[.int .i64 2, .int .i64 4, .int .i64 5, .int .i64 6, .int .i64 3] 27) = wa at *
 obtain ⟨b, hb⟩ : ∃ b, b = w.heap.size := ⟨_, rfl⟩
 rw [← hb]
 rw [← hb] at HA
 have HBX := Aside0.mk hb
 clear hb
 obtain ⟨c0, c1, c2, c3, c4⟩ := cellsK5 HA.out
 refine wp_loop_rounds 6 ?_
 rw [rounds_succ]
 go_wp2_with fail
 have I_ := is_walk q 2 ea 2 _ HQ.out
 rw [show ((2 : Int) == 2) = true from rfl] at I_
 refine I_.mono ?_
 rintro e w1 ⟨rfl, rfl⟩
 clear I_
 go_wp2_with fail
 go_ret
 exact ⟨rfl, HB.out⟩
set_option maxHeartbeats 4000000 in
theorem number4 (q : Nat) (ea : Int) (w : World) (h : w.heap[q]? = some (.cells #[.int .i64 ea, .iface 66 (.int .i64 4)] 53 (0, 0))) :
  Calls Tryz.prog 15 #[.iface 49 (.pointer (some ⟨q, 0, none⟩))] w fun ev w' => ev = .returned (.int .i64 4) ∧ Below w.heap.size w w' := by
 have HH := Aside0.mk h
 clear h
 go_enter Tryz.func15, Tryz.ntmps15
 go_wp2_with fail
 have HB := Aside0.mk (below_alloc (Below.refl w.heap.size w) (Obj.cells #[.int .i64 2, .int .i64 4, .int .i64 5, .int .i64 6, .int .i64 3] 27))
 have HA : Aside0 ((w.alloc (Obj.cells #[.int .i64 2, .int .i64 4, .int .i64 5, .int .i64 6, .int .i64 3] 27)).heap[w.heap.size]? = some (Obj.cells #[.int .i64 2, .int .i64 4, .int .i64 5, .int .i64 6, .int .i64 3] 27)) := ⟨heap_alloc_new _ _⟩
 have HQ := Aside0.mk ((HB.out.block q (blk_lt HH.out)).trans HH.out)
 generalize w.alloc (Obj.cells #[.int .i64 2, .int .i64 4, .int .i64 5, .int .i64 6, .int .i64 3] 27) = wa at *
 obtain ⟨b, hb⟩ : ∃ b, b = w.heap.size := ⟨_, rfl⟩
 rw [← hb]
 rw [← hb] at HA
 have HBX := Aside0.mk hb
 clear hb
 obtain ⟨c0, c1, c2, c3, c4⟩ := cellsK5 HA.out
 refine wp_loop_rounds 6 ?_
 rw [rounds_succ]
 go_wp2_with fail
 have I_ := is_walk q 4 ea 2 _ HQ.out
 rw [show ((4 : Int) == 2) = false from rfl] at I_
 refine I_.mono ?_
 rintro e w1 ⟨rfl, rfl⟩
 clear I_
 go_wp2_with fail
 rw [rounds_succ]
 go_wp2_with fail
 have I_ := is_walk q 4 ea 4 _ HQ.out
 rw [show ((4 : Int) == 4) = true from rfl] at I_
 refine I_.mono ?_
 rintro e w1 ⟨rfl, rfl⟩
 clear I_
 go_wp2_with fail
 go_ret
 exact ⟨rfl, HB.out⟩
set_option maxHeartbeats 4000000 in
theorem number5 (q : Nat) (ea : Int) (w : World) (h : w.heap[q]? = some (.cells #[.int .i64 ea, .iface 66 (.int .i64 5)] 53 (0, 0))) :
  Calls Tryz.prog 15 #[.iface 49 (.pointer (some ⟨q, 0, none⟩))] w fun ev w' => ev = .returned (.int .i64 5) ∧ Below w.heap.size w w' := by
 have HH := Aside0.mk h
 clear h
 go_enter Tryz.func15, Tryz.ntmps15
 go_wp2_with fail
 have HB := Aside0.mk (below_alloc (Below.refl w.heap.size w) (Obj.cells #[.int .i64 2, .int .i64 4, .int .i64 5, .int .i64 6, .int .i64 3] 27))
 have HA : Aside0 ((w.alloc (Obj.cells #[.int .i64 2, .int .i64 4, .int .i64 5, .int .i64 6, .int .i64 3] 27)).heap[w.heap.size]? = some (Obj.cells #[.int .i64 2, .int .i64 4, .int .i64 5, .int .i64 6, .int .i64 3] 27)) := ⟨heap_alloc_new _ _⟩
 have HQ := Aside0.mk ((HB.out.block q (blk_lt HH.out)).trans HH.out)
 generalize w.alloc (Obj.cells #[.int .i64 2, .int .i64 4, .int .i64 5, .int .i64 6, .int .i64 3] 27) = wa at *
 obtain ⟨b, hb⟩ : ∃ b, b = w.heap.size := ⟨_, rfl⟩
 rw [← hb]
 rw [← hb] at HA
 have HBX := Aside0.mk hb
 clear hb
 obtain ⟨c0, c1, c2, c3, c4⟩ := cellsK5 HA.out
 refine wp_loop_rounds 6 ?_
 rw [rounds_succ]
 go_wp2_with fail
 have I_ := is_walk q 5 ea 2 _ HQ.out
 rw [show ((5 : Int) == 2) = false from rfl] at I_
 refine I_.mono ?_
 rintro e w1 ⟨rfl, rfl⟩
 clear I_
 go_wp2_with fail
 rw [rounds_succ]
 go_wp2_with fail
 have I_ := is_walk q 5 ea 4 _ HQ.out
 rw [show ((5 : Int) == 4) = false from rfl] at I_
 refine I_.mono ?_
 rintro e w1 ⟨rfl, rfl⟩
 clear I_
 go_wp2_with fail
 rw [rounds_succ]
 go_wp2_with fail
 have I_ := is_walk q 5 ea 5 _ HQ.out
 rw [show ((5 : Int) == 5) = true from rfl] at I_
 refine I_.mono ?_
 rintro e w1 ⟨rfl, rfl⟩
 clear I_
 go_wp2_with fail
 go_ret
 exact ⟨rfl, HB.out⟩
set_option maxHeartbeats 4000000 in
theorem number6 (q : Nat) (ea : Int) (w : World) (h : w.heap[q]? = some (.cells #[.int .i64 ea, .iface 66 (.int .i64 6)] 53 (0, 0))) :
  Calls Tryz.prog 15 #[.iface 49 (.pointer (some ⟨q, 0, none⟩))] w fun ev w' => ev = .returned (.int .i64 6) ∧ Below w.heap.size w w' := by
 have HH := Aside0.mk h
 clear h
 go_enter Tryz.func15, Tryz.ntmps15
 go_wp2_with fail
 have HB := Aside0.mk (below_alloc (Below.refl w.heap.size w) (Obj.cells #[.int .i64 2, .int .i64 4, .int .i64 5, .int .i64 6, .int .i64 3] 27))
 have HA : Aside0 ((w.alloc (Obj.cells #[.int .i64 2, .int .i64 4, .int .i64 5, .int .i64 6, .int .i64 3] 27)).heap[w.heap.size]? = some (Obj.cells #[.int .i64 2, .int .i64 4, .int .i64 5, .int .i64 6, .int .i64 3] 27)) := ⟨heap_alloc_new _ _⟩
 have HQ := Aside0.mk ((HB.out.block q (blk_lt HH.out)).trans HH.out)
 generalize w.alloc (Obj.cells #[.int .i64 2, .int .i64 4, .int .i64 5, .int .i64 6, .int .i64 3] 27) = wa at *
 obtain ⟨b, hb⟩ : ∃ b, b = w.heap.size := ⟨_, rfl⟩
 rw [← hb]
 rw [← hb] at HA
 have HBX := Aside0.mk hb
 clear hb
 obtain ⟨c0, c1, c2, c3, c4⟩ := cellsK5 HA.out
 refine wp_loop_rounds 6 ?_
 rw [rounds_succ]
 go_wp2_with fail
 have I_ := is_walk q 6 ea 2 _ HQ.out
 rw [show ((6 : Int) == 2) = false from rfl] at I_
 refine I_.mono ?_
 rintro e w1 ⟨rfl, rfl⟩
 clear I_
 go_wp2_with fail
 rw [rounds_succ]
 go_wp2_with fail
 have I_ := is_walk q 6 ea 4 _ HQ.out
 rw [show ((6 : Int) == 4) = false from rfl] at I_
 refine I_.mono ?_
 rintro e w1 ⟨rfl, rfl⟩
 clear I_
 go_wp2_with fail
 rw [rounds_succ]
 go_wp2_with fail
 have I_ := is_walk q 6 ea 5 _ HQ.out
 rw [show ((6 : Int) == 5) = false from rfl] at I_
 refine I_.mono ?_
 rintro e w1 ⟨rfl, rfl⟩
 clear I_
 go_wp2_with fail
 rw [rounds_succ]
 go_wp2_with fail
 have I_ := is_walk q 6 ea 6 _ HQ.out
 rw [show ((6 : Int) == 6) = true from rfl] at I_
 refine I_.mono ?_
 rintro e w1 ⟨rfl, rfl⟩
 clear I_
 go_wp2_with fail
 go_ret
 exact ⟨rfl, HB.out⟩
set_option maxHeartbeats 4000000 in
theorem number3 (q : Nat) (ea : Int) (w : World) (h : w.heap[q]? = some (.cells #[.int .i64 ea, .iface 66 (.int .i64 3)] 53 (0, 0))) :
  Calls Tryz.prog 15 #[.iface 49 (.pointer (some ⟨q, 0, none⟩))] w fun ev w' => ev = .returned (.int .i64 3) ∧ Below w.heap.size w w' := by
 have HH := Aside0.mk h
 clear h
 go_enter Tryz.func15, Tryz.ntmps15
 go_wp2_with fail
 have HB := Aside0.mk (below_alloc (Below.refl w.heap.size w) (Obj.cells #[.int .i64 2, .int .i64 4, .int .i64 5, .int .i64 6, .int .i64 3] 27))
 have HA : Aside0 ((w.alloc (Obj.cells #[.int .i64 2, .int .i64 4, .int .i64 5, .int .i64 6, .int .i64 3] 27)).heap[w.heap.size]? = some (Obj.cells #[.int .i64 2, .int .i64 4, .int .i64 5, .int .i64 6, .int .i64 3] 27)) := ⟨heap_alloc_new _ _⟩
 have HQ := Aside0.mk ((HB.out.block q (blk_lt HH.out)).trans HH.out)
 generalize w.alloc (Obj.cells #[.int .i64 2, .int .i64 4, .int .i64 5, .int .i64 6, .int .i64 3] 27) = wa at *
 obtain ⟨b, hb⟩ : ∃ b, b = w.heap.size := ⟨_, rfl⟩
 rw [← hb]
 rw [← hb] at HA
 have HBX := Aside0.mk hb
 clear hb
 obtain ⟨c0, c1, c2, c3, c4⟩ := cellsK5 HA.out
 refine wp_loop_rounds 6 ?_
 rw [rounds_succ]
 go_wp2_with fail
 have I_ := is_walk q 3 ea 2 _ HQ.out
 rw [show ((3 : Int) == 2) = false from rfl] at I_
 refine I_.mono ?_
 rintro e w1 ⟨rfl, rfl⟩
 clear I_
 go_wp2_with fail
 rw [rounds_succ]
 go_wp2_with fail
 have I_ := is_walk q 3 ea 4 _ HQ.out
 rw [show ((3 : Int) == 4) = false from rfl] at I_
 refine I_.mono ?_
 rintro e w1 ⟨rfl, rfl⟩
 clear I_
 go_wp2_with fail
 rw [rounds_succ]
 go_wp2_with fail
 have I_ := is_walk q 3 ea 5 _ HQ.out
 rw [show ((3 : Int) == 5) = false from rfl] at I_
 refine I_.mono ?_
 rintro e w1 ⟨rfl, rfl⟩
 clear I_
 go_wp2_with fail
 rw [rounds_succ]
 go_wp2_with fail
 have I_ := is_walk q 3 ea 6 _ HQ.out
 rw [show ((3 : Int) == 6) = false from rfl] at I_
 refine I_.mono ?_
 rintro e w1 ⟨rfl, rfl⟩
 clear I_
 go_wp2_with fail
 rw [rounds_succ]
 go_wp2_with fail
 have I_ := is_walk q 3 ea 3 _ HQ.out
 rw [show ((3 : Int) == 3) = true from rfl] at I_
 refine I_.mono ?_
 rintro e w1 ⟨rfl, rfl⟩
 clear I_
 go_wp2_with fail
 go_ret
 exact ⟨rfl, HB.out⟩
theorem number_walk {m : Nat} {v : Value} {e ea : Int} (w : World) (H : Er w m v e ea) (he : e = 0 ∨ e = 2 ∨ e = 3 ∨ e = 4 ∨ e = 5 ∨ e = 6) :
  Calls Tryz.prog 15 #[v] w fun ev w' => ev = .returned (.int .i64 e) ∧ Below w.heap.size w w' := by
 rcases H with ⟨rfl, rfl⟩ | ⟨h0, q, _, rfl, hb⟩
 ·exact number0 w
 ·rcases he with rfl | rfl | rfl | rfl | rfl | rfl
  ·exact absurd rfl h0
  ·exact number2 q ea w hb
  ·exact number3 q ea w hb
  ·exact number4 q ea w hb
  ·exact number5 q ea w hb
  ·exact number6 q ea w hb
end Go.Proofs.YtaaifdclojkdmaaGreatDoor.MFr
set_option linter.unusedVariables false
set_option linter.unusedSimpArgs false
set_option maxRecDepth 100000
namespace Go.Proofs.YtaaifdclojkdmaaGreatDoor.MFr
open Go.RowKit Go.Extern.Stop Go.Stop Go.Extern Go.Proofs.YtaaifdclojkdmaaGreatDoorW.PrintWords Go.Proofs.YtaaifdclojkdmaaGreatDoorW.PrintLast Go.Proofs.YtaaifdclojkdmaaGreatDoorW.PrintMore
theorem as_nil (t : Value) (w : World) :
  Calls Tryz.prog 17 #[.nilIface, t] w fun e w' => e = .returned (.bool false) ∧ w' = w := by
 go_enter Tryz.func17, Tryz.ntmps17
 go_wp2
 go_ret
 exact ⟨rfl, rfl⟩
theorem as_valueOf27 (t : Addr) (w : World) : (ReflectliteValue.unpack (.iface 51 (.pointer (some t)))).run Tryz.prog w
  = .ok (.agg #[.pointer (some ⟨1, 51, none⟩), .pointer (some ⟨w.heap.size, 0, none⟩), .int .u64 150]) (w.alloc (.cells #[.pointer (some t)] 51)) := by kernel_rfl
theorem as_type27 (a : Addr) (w : World) : (ReflectliteValue.methodAny (ReflectliteValue.valueError "reflectlite.Value.Type" 0) (fun t _ _ _ => ReflectliteType.toType t) #[.agg #[.pointer (some ⟨1, 51, none⟩), .pointer (some a), .int .u64 150]]).run Tryz.prog w
  = .ok (.iface 120 (.agg #[.pointer (some ⟨1, 51, none⟩)])) w := by kernel_rfl
theorem as_methodKind (h : Value) (w : World) : (Go.method 268 120 (.agg #[h]) "Kind").run Tryz.prog w = .ok (102, h) w := by kernel_rfl
theorem as_kind27 (w : World) : ((ReflectliteType.abiMethod fun t => (fun a : Nat => Value.int IntKind.u8 (a : Int)) <$> Rtype.kind t) #[.pointer (some ⟨1, 51, none⟩)]).run Tryz.prog w = .ok (.int .u8 22) w := by kernel_rfl
theorem as_kind25 (w : World) : ((ReflectliteType.abiMethod fun t => (fun a : Nat => Value.int IntKind.u8 (a : Int)) <$> Rtype.kind t) #[.pointer (some ⟨1, 49, none⟩)]).run Tryz.prog w = .ok (.int .u8 22) w := by kernel_rfl
theorem rlm (z : Sem Value) (f : TypeId → Addr → Nat → Nat → Sem Value) (v : Value) :
  ReflectliteValue.method z f #[v] = (do match ← ReflectliteValue.parts v with | none => z | some (t, a, fl) => f t a fl (fl % 32)) := rfl
theorem as_parts27 (a : Addr) (w : World) : (ReflectliteValue.parts (.agg #[.pointer (some ⟨1, 51, none⟩), .pointer (some a), .int .u64 150])).run Tryz.prog w = .ok (some (51, a, 150)) w := by kernel_rfl
theorem as_isNil27 (a p : Addr) (W : World) (ha : W.cell? a = some (.pointer (some p))) :
  (ReflectliteValue.method (ReflectliteValue.valueError "reflectlite.Value.IsNil" 0) ReflectliteValue.isNil #[.agg #[.pointer (some ⟨1, 51, none⟩), .pointer (some a), .int .u64 150]]).run Tryz.prog W = .ok (.bool false) W := by
 rw [rlm]
 simp only [Sem.run_bind, as_parts27, Result.andThen]
 simp [ReflectliteValue.isNil, loadVar, isAgg, underlying, Tryz.underlying51, ha, Result.andThen]
theorem as_methodElem (h : Value) (w : World) : (Go.method 268 120 (.agg #[h]) "Elem").run Tryz.prog w = .ok (114, .agg #[h]) w := by kernel_rfl
theorem as_methodImplements (h : Value) (w : World) : (Go.method 268 120 (.agg #[h]) "Implements").run Tryz.prog w = .ok (115, .agg #[h]) w := by kernel_rfl
theorem as_methodAssignableTo (h : Value) (w : World) : (Go.method 268 120 (.agg #[h]) "AssignableTo").run Tryz.prog w = .ok (112, .agg #[h]) w := by kernel_rfl
theorem as_elem27 (w : World) : (ReflectliteType.method ReflectliteType.elem #[.agg #[.pointer (some ⟨1, 51, none⟩)]]).run Tryz.prog w = .ok (.iface 120 (.agg #[.pointer (some ⟨1, 49, none⟩)])) w := by kernel_rfl
theorem as_implements25 (w : World) : (ReflectliteType.relation "Implements" ReflectliteType.implements_ #[.agg #[.pointer (some ⟨1, 49, none⟩)], .iface 120 (.agg #[.pointer (some ⟨1, 43, none⟩)])]).run Tryz.prog w = .ok (.bool true) w := by kernel_rfl
theorem as_typeOf25 (v : Value) (w : World) : (ReflectliteType.typeOf #[.iface 49 v]).run Tryz.prog w = .ok (.iface 120 (.agg #[.pointer (some ⟨1, 49, none⟩)])) w := by kernel_rfl
theorem as_assignable25 (w : World) : (ReflectliteType.relation "AssignableTo" ReflectliteType.assignableTo #[.agg #[.pointer (some ⟨1, 49, none⟩)], .iface 120 (.agg #[.pointer (some ⟨1, 49, none⟩)])]).run Tryz.prog w = .ok (.bool true) w := by kernel_rfl
theorem as_valueOf25 (e : Addr) (w : World) : (ReflectliteValue.unpack (.iface 49 (.pointer (some e)))).run Tryz.prog w
  = .ok (.agg #[.pointer (some ⟨1, 49, none⟩), .pointer (some ⟨w.heap.size, 0, none⟩), .int .u64 150]) (w.alloc (.cells #[.pointer (some e)] 49)) := by kernel_rfl
theorem as_elemOf27 (w : World) : (Rtype.elem? 51).run Tryz.prog w = .ok (some 49) w := by kernel_rfl
theorem as_mk25 (p : Addr) (w : World) : (ReflectliteValue.mk 49 p ReflectliteValue.flagAddr).run Tryz.prog w = .ok (.agg #[.pointer (some ⟨1, 49, none⟩), .pointer (some p), .int .u64 406]) w := by kernel_rfl
theorem as_elemV27 (a p : Addr) (W : World) (ha : W.cell? a = some (.pointer (some p))) :
  (ReflectliteValue.method (ReflectliteValue.valueError "reflectlite.Value.Elem" 0) ReflectliteValue.elem #[.agg #[.pointer (some ⟨1, 51, none⟩), .pointer (some a), .int .u64 150]]).run Tryz.prog W
   = .ok (.agg #[.pointer (some ⟨1, 49, none⟩), .pointer (some p), .int .u64 406]) W := by
 rw [rlm]
 simp only [Sem.run_bind, as_parts27, Result.andThen]
 simp [ReflectliteValue.elem, loadVar, isAgg, underlying, Tryz.underlying51, ha, Result.andThen, as_elemOf27, as_mk25]
theorem rls (v x : Value) : ReflectliteValue.set #[v, x] = (do
  let (some (dst, a, fl), some (src, b, _)) := (← ReflectliteValue.parts v, ← ReflectliteValue.parts x)
   | unsupported (.noEntry "extern/(internal/reflectlite.Value).Set.zeroValue")
  if fl / ReflectliteValue.flagAddr % 2 == 0 then unsupported (.noEntry "extern/(internal/reflectlite.Value).Set.unaddressable")
  let val ← loadVar src b
  if ← Rtype.directlyAssignable dst src then storeVar dst a val
  else if ← Rtype.implements dst src then
   if (← Rtype.kind src) == 20 then
    match val with
    | .nilIface => unsupported (.noEntry "extern/reflectlite: a nil value of one interface type handed on as a value of another")
    | _ => storeVar dst a val
   else storeVar dst a (.iface src val)
  else panicString ("reflectlite.Set: value of type " ++ (← Rtype.spelt src) ++ " is not assignable to type " ++ (← Rtype.spelt dst))
  pure (.tuple #[])) := rfl
theorem as_parts25a (a : Addr) (w : World) : (ReflectliteValue.parts (.agg #[.pointer (some ⟨1, 49, none⟩), .pointer (some a), .int .u64 406])).run Tryz.prog w = .ok (some (49, a, 406)) w := by kernel_rfl
theorem as_parts25 (a : Addr) (w : World) : (ReflectliteValue.parts (.agg #[.pointer (some ⟨1, 49, none⟩), .pointer (some a), .int .u64 150])).run Tryz.prog w = .ok (some (49, a, 150)) w := by kernel_rfl
theorem as_direct25 (w : World) : (Rtype.directlyAssignable 49 49).run Tryz.prog w = .ok true w := by kernel_rfl
theorem as_set25 (ta b e : Addr) (old : Value) (W : World) (hb : W.cell? b = some (.pointer (some e))) (ht : W.cell? ta = some old) (hf : W.frozen? ta = false) :
  (ReflectliteValue.set #[.agg #[.pointer (some ⟨1, 49, none⟩), .pointer (some ta), .int .u64 406], .agg #[.pointer (some ⟨1, 49, none⟩), .pointer (some b), .int .u64 150]]).run Tryz.prog W
   = .ok (.tuple #[]) (W.setCell ta (.pointer (some e))) := by
 rw [rls]
 simp only [Sem.run_bind, as_parts25a, as_parts25, Result.andThen]
 simp [ReflectliteValue.flagAddr, loadVar, isAgg, underlying, Tryz.underlying49, hb, Result.andThen, as_direct25, storeVar, Value.cells, storeCells, Addr.add]
 rw [run_store Tryz.prog W ta _ _ (by rfl)]
 simp [ht, hf]
set_option maxHeartbeats 4000000 in
theorem as_hit (e t : Addr) (old : Value) (w : World) (hg : w.cell? ⟨0, 0, none⟩ = some (.iface 120 (.agg #[.pointer (some ⟨1, 43, none⟩)]))) (ht0 : w.cell? t = some old) (hf0 : w.frozen? t = false) :
  Calls Tryz.prog 17 #[.iface 49 (.pointer (some e)), .iface 51 (.pointer (some t))] w fun ev w' => ev = .returned (.bool true) ∧ w' = ((((w.alloc (.cells #[.pointer (some t)] 51)).alloc (.cells #[.pointer (some ⟨1, 51, none⟩), .pointer (some ⟨w.heap.size, 0, none⟩), .int .u64 150] 95)).alloc (.cells #[.pointer (some ⟨1, 51, none⟩), .pointer (some ⟨w.heap.size, 0, none⟩), .int .u64 150] 95)).alloc (.cells #[.pointer (some e)] 49)).setCell t (.pointer (some e)) := by
 have h6 := @run_callFunc_extern Tryz.prog 41 _ (fun args => ReflectliteValue.unpack (args.getD 0 (.tuple #[]))) Tryz.func41 (by kernel_rfl) (by kernel_rfl) (by kernel_rfl) (by kernel_rfl)
 have h7 := @run_callFunc_extern Tryz.prog 42 _ (ReflectliteValue.methodAny (ReflectliteValue.valueError "reflectlite.Value.Type" 0) (fun t _ _ _ => ReflectliteType.toType t)) Tryz.func42 (by kernel_rfl) (by kernel_rfl) (by kernel_rfl) (by kernel_rfl)
 have h8 := @run_callFunc_extern Tryz.prog 43 _ (ReflectliteValue.method (ReflectliteValue.valueError "reflectlite.Value.IsNil" 0) ReflectliteValue.isNil) Tryz.func43 (by kernel_rfl) (by kernel_rfl) (by kernel_rfl) (by kernel_rfl)
 have h27 := @run_callFunc_extern Tryz.prog 102 _ (ReflectliteType.abiMethod fun t => do pure (.int .u8 (← Rtype.kind t))) Tryz.func102 (by kernel_rfl) (by kernel_rfl) (by kernel_rfl) (by kernel_rfl)
 have h37 := @run_callFunc_extern Tryz.prog 114 _ (ReflectliteType.method ReflectliteType.elem) Tryz.func114 (by kernel_rfl) (by kernel_rfl) (by kernel_rfl) (by kernel_rfl)
 have h38 := @run_callFunc_extern Tryz.prog 115 _ (ReflectliteType.relation "Implements" ReflectliteType.implements_) Tryz.func115 (by kernel_rfl) (by kernel_rfl) (by kernel_rfl) (by kernel_rfl)
 have h10 := @run_callFunc_extern Tryz.prog 59 _ ReflectliteType.typeOf Tryz.func59 (by kernel_rfl) (by kernel_rfl) (by kernel_rfl) (by kernel_rfl)
 have h35 := @run_callFunc_extern Tryz.prog 112 _ (ReflectliteType.relation "AssignableTo" ReflectliteType.assignableTo) Tryz.func112 (by kernel_rfl) (by kernel_rfl) (by kernel_rfl) (by kernel_rfl)
 have h11 := @run_callFunc_extern Tryz.prog 67 _ (ReflectliteValue.method (ReflectliteValue.valueError "reflectlite.Value.Elem" 0) ReflectliteValue.elem) Tryz.func67 (by kernel_rfl) (by kernel_rfl) (by kernel_rfl) (by kernel_rfl)
 have h12 := @run_callFunc_extern Tryz.prog 68 _ ReflectliteValue.set Tryz.func68 (by kernel_rfl) (by kernel_rfl) (by kernel_rfl) (by kernel_rfl)
 have tO := as_typeOf25
 have mA := as_methodAssignableTo
 have a25 := as_assignable25
 have v25 := as_valueOf25
 have f6 := as_valueOf27
 have f7 := as_type27
 have mK := as_methodKind
 have mE := as_methodElem
 have mI := as_methodImplements
 have k27 := as_kind27
 have k25 := as_kind25
 have e27 := as_elem27
 have i25 := as_implements25
 have n8 := as_isNil27 ⟨w.heap.size, 0, none⟩ t ((w.alloc (.cells #[.pointer (some t)] 51)).alloc (.cells #[.pointer (some ⟨1, 51, none⟩), .pointer (some ⟨w.heap.size, 0, none⟩), .int .u64 150] 95)) (by simp)
 have hlt : 0 < w.heap.size := by
  rcases Nat.eq_zero_or_pos w.heap.size with h0 | h
  ·simp [World.cell?, h0] at hg
  ·exact h
 have hg2 : ((w.alloc (.cells #[.pointer (some t)] 51)).alloc (.cells #[.pointer (some ⟨1, 51, none⟩), .pointer (some ⟨w.heap.size, 0, none⟩), .int .u64 150] 95)).cell? ⟨0, 0, none⟩ = some (.iface 120 (.agg #[.pointer (some ⟨1, 43, none⟩)])) := by
  rw [World.cell?_alloc_lt _ _ ⟨0, 0, none⟩ (by simp), World.cell?_alloc_lt _ _ ⟨0, 0, none⟩ hlt]; exact hg
 have htl : t.block < w.heap.size := by
  rcases Nat.lt_or_ge t.block w.heap.size with h | h
  ·exact h
  ·simp [World.cell?, Array.getElem?_eq_none h] at ht0
 have el := as_elemV27 ⟨w.heap.size, 0, none⟩ t (((w.alloc (.cells #[.pointer (some t)] 51)).alloc (.cells #[.pointer (some ⟨1, 51, none⟩), .pointer (some ⟨w.heap.size, 0, none⟩), .int .u64 150] 95)).alloc (.cells #[.pointer (some ⟨1, 51, none⟩), .pointer (some ⟨w.heap.size, 0, none⟩), .int .u64 150] 95)) (by rw [World.cell?_alloc_lt _ _ ⟨w.heap.size, 0, none⟩ (by simp; omega)]; simp)
 have st := as_set25 t ⟨w.heap.size + 1 + 1 + 1, 0, none⟩ e old ((((w.alloc (.cells #[.pointer (some t)] 51)).alloc (.cells #[.pointer (some ⟨1, 51, none⟩), .pointer (some ⟨w.heap.size, 0, none⟩), .int .u64 150] 95)).alloc (.cells #[.pointer (some ⟨1, 51, none⟩), .pointer (some ⟨w.heap.size, 0, none⟩), .int .u64 150] 95)).alloc (.cells #[.pointer (some e)] 49))
  (by rw [World.cell?_alloc_at _ _ _ _ (by simp)]; rfl)
  (by rw [World.cell?_alloc_lt _ _ t (by simp; omega), World.cell?_alloc_lt _ _ t (by simp; omega), World.cell?_alloc_lt _ _ t (by simp; omega), World.cell?_alloc_lt _ _ t htl]; exact ht0)
  (by rw [World.frozen?_alloc_old _ _ t (by simp; omega), World.frozen?_alloc_old _ _ t (by simp; omega), World.frozen?_alloc_old _ _ t (by simp; omega), World.frozen?_alloc_old _ _ t (Nat.ne_of_lt htl)]; exact hf0)
 go_enter Tryz.func17, Tryz.ntmps17
 go_wp2
 refine wp_loop_rounds 1 ?_
 rw [rounds_succ]
 go_wp2
 go_ret
 exact ⟨rfl, rfl⟩
end Go.Proofs.YtaaifdclojkdmaaGreatDoor.MFr
set_option linter.unusedSimpArgs false
set_option linter.unusedVariables false
namespace Go.Proofs.YtaaifdclojkdmaaGreatDoor.Sum
def stp (x : BitVec 32) : BitVec 32 := (x <<< 1) ^^^ (if x.msb then 0x04c11db7#32 else 0#32)
def st8 (x : BitVec 32) : BitVec 32 := stp (stp (stp (stp (stp (stp (stp (stp x)))))))
def top (c : BitVec 8) : BitVec 32 := (c.zeroExtend 32) <<< 24
def run (r : BitVec 32) (l : List (BitVec 8)) : BitVec 32 := l.foldl (fun r c => st8 (r ^^^ top c)) r
def more (s : BitVec 32) (l : List (BitVec 8)) : BitVec 32 := ~~~ (run (~~~ s) l)
def msk : BitVec 32 := 0x80000000#32
def bits (c : BitVec 8) : List Bool := [c.getLsbD 7, c.getLsbD 6, c.getLsbD 5, c.getLsbD 4, c.getLsbD 3, c.getLsbD 2, c.getLsbD 1, c.getLsbD 0]
def stpn : Nat → BitVec 32 → BitVec 32
  | 0, x => x
  | n + 1, x => stpn n (stp x)
def bytes (r : BitVec 32) : List (BitVec 8) := [(r >>> 24).truncate 8, (r >>> 16).truncate 8, (r >>> 8).truncate 8, r.truncate 8]
end Go.Proofs.YtaaifdclojkdmaaGreatDoor.Sum
set_option linter.unusedVariables false
set_option linter.unusedSimpArgs false
namespace Go.Proofs.YtaaifdclojkdmaaGreatDoor.PSum
open Go.RowKit Go.Proofs.YtaaifdclojkdmaaGreatDoor.MFr Go.Proofs.YtaaifdclojkdmaaGreatDoorW.PrintWords Go.Proofs.YtaaifdclojkdmaaGreatDoorW.PrintLast Go.Proofs.YtaaifdclojkdmaaGreatDoorW.PrintMore Go.Proofs.YtaaifdclojkdmaaGreatDoor.Wire Go.Proofs.YtaaifdclojkdmaaGreatDoor.Evl Go.Proofs.YtaaifdclojkdmaaGreatDoor.Sum
def V (x : BitVec 32) : Int := (x.toNat : Int)
def byt (x : Int) : BitVec 8 := BitVec.ofNat 8 x.toNat
def L (l : List Int) : List (BitVec 8) := l.map byt
theorem V_lt (x : BitVec 32) : 0 ≤ V x ∧ V x < 4294967296 := by
 have := x.isLt
 unfold V; omega
theorem byt_nat {x : Int} (h0 : 0 ≤ x) (h1 : x ≤ 255) : ((byt x).toNat : Int) = x := by
 unfold byt
 rw [BitVec.toNat_ofNat]
 omega
theorem xor_V (x y : BitVec 32) : Go.bits .xor .u32 (V x) (V y) = V (x ^^^ y) := by
 unfold V
 rw [u32_xor_nat _ _ x.isLt y.isLt, BitVec.toNat_xor]
theorem not_V (x : BitVec 32) : Go.bits .xor .u32 4294967295 (V x) = V (~~~ x) := by
 have e : (4294967295 : Int) = V (BitVec.allOnes 32) := rfl
 rw [e, xor_V, BitVec.allOnes_xor]
theorem dbl_V (x : BitVec 32) : (V x * (2 : Int)) % (4294967296 : Int) = V (x <<< (1 : Nat)) := by
 unfold V
 rw [BitVec.toNat_shiftLeft, Nat.shiftLeft_eq]
 omega
theorem poly_V : (79764919 : Int) = V 0x04c11db7#32 := rfl
theorem msb_nat (x : BitVec 32) : x.msb = decide (2147483648 ≤ x.toNat) := by
 rw [BitVec.msb_eq_decide]
theorem and_V (x : BitVec 32) : (Go.bits .and .u32 (V x) 2147483648 = 0) ↔ x.msb = false := by
 have h : Go.bits .and .u32 (V x) 2147483648 = ((x.toNat &&& 2 ^ 31 : Nat) : Int) := u32_and_nat _ _ x.isLt (by decide)
 rw [h, BitVec.msb_eq_getLsbD_last]
 show _ ↔ x.toNat.testBit 31 = false
 constructor
 ·intro e
  have e' : x.toNat &&& 2 ^ 31 = 0 := by omega
  have := congrArg (fun n => n.testBit 31) e'
  simpa [Nat.testBit_and, show Nat.testBit 2147483648 31 = true by decide] using this
 ·intro e
  have : x.toNat &&& 2 ^ 31 = 0 := by
   apply Nat.eq_of_testBit_eq
   intro i
   rw [Nat.testBit_and, Nat.testBit_two_pow, Nat.zero_testBit]
   by_cases hi : 31 = i
   ·subst hi; rw [e]; rfl
   ·simp [hi]
  omega
theorem stp_V0 {x : BitVec 32} (h : x.msb = false) : (V x * 2) % 4294967296 = V (stp x) := by
 unfold stp
 rw [h, dbl_V]
 simp
theorem stp_V1 {x : BitVec 32} (h : x.msb = true) : Go.bits .xor .u32 ((V x * 2) % 4294967296) 79764919 = V (stp x) := by
 unfold stp
 rw [h, dbl_V, poly_V, xor_V]
 rfl
theorem top_V {c : Int} (h0 : 0 ≤ c) (h1 : c ≤ 255) : ((c % 4294967296) * 16777216) % 4294967296 = V (top (byt c)) := by
 unfold V top
 rw [BitVec.toNat_shiftLeft, BitVec.toNat_setWidth, Nat.shiftLeft_eq]
 have := byt_nat h0 h1
 have h2 : (byt c).toNat < 256 := (byt c).isLt
 have h3 : (byt c).toNat % 2 ^ 32 = (byt c).toNat := Nat.mod_eq_of_lt (by omega)
 rw [h3]
 omega
theorem step_loop (d : Nat) : ∀ (i : Int) (x : BitVec 32), 0 ≤ i → i + d = 8 → Evl (fun k => sum_step.l0 k (V x) i) (V (stpn d x)) := by
 induction d with
 | zero =>
  intro i x h0 h1
  refine Evl.stop (fun k => ?_)
  simp only [sum_step.l0, stpn]
  rw [if_neg (by omega)]
 | succ d ih =>
  intro i x h0 h1
  refine Evl.step (fun k => ?_) (ih (i + 1) (stp x) (by omega) (by omega))
  simp only [sum_step.l0]
  rw [if_pos (by omega), w64 (x := i + 1) (by omega) (by omega)]
  cases hm : x.msb with
  | false => rw [if_pos ((and_V x).2 hm), stp_V0 hm]
  | true => rw [if_neg (by rw [and_V, hm]; simp), stp_V1 hm]
theorem step_evl (x : BitVec 32) : Evl (fun k => sum_step.f k (V x)) (V (st8 x)) := step_loop 8 0 x (by omega) (by omega)
theorem more_loop {l : List Int} (hb : Bys l) (hl : l.length ≤ 100000) (d : Nat) : ∀ (i : Int) (x : BitVec 32), 0 ≤ i → i + d = l.length → Evl (fun k => sum_More.l0 k (V x) l (l.length : Int) i) (V (~~~ (run x (L (l.drop i.toNat))))) := by
 induction d with
 | zero =>
  intro i x h0 h1
  refine Evl.stop (fun k => ?_)
  simp only [sum_More.l0]
  rw [if_neg (by omega), List.drop_eq_nil_of_le (by omega), not_V]
  rfl
 | succ d ih =>
  intro i x h0 h1
  have e : l.drop i.toNat = rd l i :: l.drop (i + 1).toNat := by
   rw [List.drop_eq_getElem_cons (by omega), show (i + 1).toNat = i.toNat + 1 by omega]
   unfold rd
   simp [List.getD_eq_getElem?_getD, List.getElem?_eq_getElem (show i.toNat < l.length by omega)]
  have hc := hb (rd l i) (by
   unfold rd
   rw [List.getD_eq_getElem?_getD, List.getElem?_eq_getElem (by omega)]
   simp)
  refine Evl.succ ?_
  simp only [sum_More.l0, if_pos (show i < (l.length : Int) by omega), if_pos h0]
  rw [top_V hc.1 hc.2, xor_V, w64 (x := i + 1) (by omega) (by omega)]
  refine Evl.bind (step_evl _) ?_
  have := ih (i + 1) (st8 (x ^^^ top (byt (rd l i)))) (by omega) (by omega)
  rw [e]
  exact this
theorem more_evl {l : List Int} (hb : Bys l) (hl : l.length ≤ 100000) (s : BitVec 32) : Evl (fun k => sum_More.f k (V s) l) (V (more s (L l))) := by
 unfold sum_More.f
 rw [not_V]
 exact more_loop hb hl l.length 0 (~~~ s) (by omega) (by omega)
theorem of_evl {l : List Int} (hb : Bys l) (hl : l.length ≤ 100000) : Evl (fun k => sum_Of.f k l) (V (more 0#32 (L l))) := by
 unfold sum_Of.f
 exact Evl.bind (more_evl hb hl 0#32) (Evl.now fun _ => rfl)
def sb (r : BitVec 32) : List Int := [(V r / 16777216) % 256, (V r / 65536) % 256, (V r / 256) % 256, V r % 256]
theorem sb_bys (r : BitVec 32) : Bys (sb r) := by
 intro x hx
 simp only [sb, List.mem_cons, List.not_mem_nil, or_false] at hx
 omega
def sld (l : List Int) : List Int := l ++ sb (more 0#32 (L l))
theorem sld_length (l : List Int) : (sld l).length = l.length + 4 := by simp [sld, sb]
theorem bys_append {l m : List Int} (hl : Bys l) (hm : Bys m) : Bys (l ++ m) := by
 intro x hx
 rcases List.mem_append.1 hx with h | h
 ·exact hl x h
 ·exact hm x h
theorem sld_bys {l : List Int} (hb : Bys l) : Bys (sld l) := bys_append hb (sb_bys _)
theorem bys_take {l : List Int} (hb : Bys l) (n : Nat) : Bys (l.take n) := fun x hx => hb x (List.mem_of_mem_take hx)
theorem seal_evl {l : List Int} (hb : Bys l) (hl : l.length ≤ 100000) : Evl (fun k => sum_Seal.f k l) (sld l) := by
 unfold sum_Seal.f
 refine Evl.bind (of_evl hb hl) (Evl.now fun _ => ?_)
 rw [if_pos (by simp; omega)]
 simp only [Option.bind_some, List.nil_append]
 rw [if_pos (by simp; omega)]
 rfl
def isSld (l : List Int) : Bool := decide (4 ≤ l.length ∧ sld (l.take (l.length - 4)) = l)
theorem open_evl {l : List Int} (hb : Bys l) (hl : l.length ≤ 100000) : Evl (fun k => sum_Open.f k l) (if isSld l = true then (l.take (l.length - 4), true) else ([], false)) := by
 unfold sum_Open.f
 rw [w64 (x := (l.length : Int) - 4) (by omega) (by omega)]
 have e : ((l.length : Int) - 4).toNat = l.length - 4 := by omega
 by_cases h : (l.length : Int) - 4 < 0
 ·have : isSld l = false := by unfold isSld; simp; omega
  simp only [if_pos h, this]
  exact Evl.now fun _ => rfl
 ·simp only [if_neg h, if_pos (show 0 ≤ (l.length : Int) - 4 by omega), if_pos (show (l.length : Int) - 4 ≤ (l.length : Int) by omega), e]
  refine Evl.bind (seal_evl (bys_take hb _) (by simp; omega)) (Evl.now fun _ => ?_)
  by_cases hs : sld (l.take (l.length - 4)) = l
  ·have : isSld l = true := by unfold isSld; simp [hs]; omega
   rw [if_pos ((str_same (sld_bys (bys_take hb _)) hb).2 hs), this, if_pos (by simp; omega)]
   rfl
  ·have : isSld l = false := by unfold isSld; simp [hs]
   rw [if_neg (fun h => hs ((str_same (sld_bys (bys_take hb _)) hb).1 h)), this]
   rfl
theorem eight_loop (d : Nat) : ∀ (i : Int) (x : BitVec 32), 0 ≤ i → i + d = 8 → Evl (fun k => drumlineref1_Eight.l0 k (V x) i) (V (stpn d x)) := by
 induction d with
 | zero =>
  intro i x h0 h1
  refine Evl.stop (fun k => ?_)
  simp only [drumlineref1_Eight.l0, stpn]
  rw [if_neg (by omega)]
 | succ d ih =>
  intro i x h0 h1
  refine Evl.step (fun k => ?_) (ih (i + 1) (stp x) (by omega) (by omega))
  simp only [drumlineref1_Eight.l0]
  have hx := V_lt x
  have hm := msb_nat x
  rw [if_pos (by omega), w64 (x := i + 1) (by omega) (by omega)]
  cases e : x.msb with
  | false =>
   rw [e] at hm
   have : ¬ 2147483648 ≤ x.toNat := of_decide_eq_false hm.symm
   rw [if_neg (by unfold V; omega), stp_V0 e]
  | true =>
   rw [e] at hm
   have : 2147483648 ≤ x.toNat := of_decide_eq_true hm.symm
   rw [if_pos (by unfold V at hx ⊢; omega), stp_V1 e]
theorem eight_evl (x : BitVec 32) : Evl (fun k => drumlineref1_Eight.f k (V x)) (V (st8 x)) := eight_loop 8 0 x (by omega) (by omega)
theorem rmore_loop {l : List Int} (hb : Bys l) (hl : l.length ≤ 100000) (d : Nat) : ∀ (i : Int) (x : BitVec 32), 0 ≤ i → i + d = l.length → Evl (fun k => drumlineref1_More.l0 k (V x) l i) (V (~~~ (run x (L (l.drop i.toNat))))) := by
 induction d with
 | zero =>
  intro i x h0 h1
  refine Evl.stop (fun k => ?_)
  simp only [drumlineref1_More.l0]
  rw [if_neg (by omega), List.drop_eq_nil_of_le (by omega), not_V]
  rfl
 | succ d ih =>
  intro i x h0 h1
  have e : l.drop i.toNat = rd l i :: l.drop (i + 1).toNat := by
   rw [List.drop_eq_getElem_cons (by omega), show (i + 1).toNat = i.toNat + 1 by omega]
   unfold rd
   simp [List.getD_eq_getElem?_getD, List.getElem?_eq_getElem (show i.toNat < l.length by omega)]
  have hc := hb (rd l i) (by
   unfold rd
   rw [List.getD_eq_getElem?_getD, List.getElem?_eq_getElem (by omega)]
   simp)
  refine Evl.succ ?_
  simp only [drumlineref1_More.l0, if_pos (show i < (l.length : Int) by omega), if_pos h0]
  rw [top_V hc.1 hc.2, xor_V, w64 (x := i + 1) (by omega) (by omega)]
  refine Evl.bind (eight_evl _) ?_
  have := ih (i + 1) (st8 (x ^^^ top (byt (rd l i)))) (by omega) (by omega)
  rw [e]
  exact this
theorem rmore_evl {l : List Int} (hb : Bys l) (hl : l.length ≤ 100000) (s : BitVec 32) : Evl (fun k => drumlineref1_More.f k (V s) l) (V (more s (L l))) := by
 unfold drumlineref1_More.f
 rw [not_V]
 exact rmore_loop hb hl l.length 0 (~~~ s) (by omega) (by omega)
theorem rof_evl {l : List Int} (hb : Bys l) (hl : l.length ≤ 100000) : Evl (fun k => drumlineref1_Of.f k l) (V (more 0#32 (L l))) := by
 unfold drumlineref1_Of.f
 exact Evl.bind (rmore_evl hb hl 0#32) (Evl.now fun _ => rfl)
theorem rcopy {l : List Int} (hl : l.length ≤ 100000) : drumlineref1_Copy.f l = some l := by
 unfold drumlineref1_Copy.f
 rw [if_pos (by simp; omega)]
 rfl
theorem rseal_evl {l : List Int} (hb : Bys l) (hl : l.length ≤ 100000) : Evl (fun k => drumlineref1_Seal.f k l) (sld l) := by
 unfold drumlineref1_Seal.f
 refine Evl.bind (rof_evl hb hl) ?_
 rw [rcopy hl]
 refine Evl.now fun _ => ?_
 simp only [Option.bind_some]
 rw [if_pos (by simp; omega)]
 rfl
theorem ropen_evl {l : List Int} (hb : Bys l) (hl : l.length ≤ 100000) : Evl (fun k => drumlineref1_Open.f k l) (if isSld l = true then (l.take (l.length - 4), true) else ([], false)) := by
 unfold drumlineref1_Open.f
 by_cases h : (l.length : Int) < 4
 ·have : isSld l = false := by unfold isSld; simp; omega
  simp only [if_pos h, this]
  exact Evl.now fun _ => rfl
 ·rw [w64 (x := (l.length : Int) - 4) (by omega) (by omega)]
  have e : ((l.length : Int) - 4).toNat = l.length - 4 := by omega
  simp only [if_neg h, if_pos (show 0 ≤ (l.length : Int) - 4 by omega), if_pos (show (l.length : Int) - 4 ≤ (l.length : Int) by omega), e]
  refine Evl.bind (rseal_evl (bys_take hb _) (by simp; omega)) (Evl.now fun _ => ?_)
  rw [rcopy (by simp; omega)]
  by_cases hs : sld (l.take (l.length - 4)) = l
  ·have : isSld l = true := by unfold isSld; simp [hs]; omega
   rw [if_pos ((str_same (sld_bys (bys_take hb _)) hb).2 hs), this]
   rfl
  ·have : isSld l = false := by unfold isSld; simp [hs]
   rw [if_neg (fun h => hs ((str_same (sld_bys (bys_take hb _)) hb).1 h)), this]
   rfl
end Go.Proofs.YtaaifdclojkdmaaGreatDoor.PSum
