/- SumBursts: two rows unlike only within 32 bits have unlike sums, and sealed bytes that were turned so are not opened. No conditions. -/
import Derived.Test.YtblaoljlcdgemaaMSx5
import Derived.Test.YtblaoljlcdgemaaPuSum
set_option linter.unusedVariables false
set_option linter.unusedSimpArgs false
namespace Go.Proofs.Ytblaoljlcdgemaa.Pure
open Go.RowKit Go.Proofs.Ytblaoljlcdgemaa.MS Go.Proofs.YtblaoljlcdgemaaW.PrintWords Go.Proofs.YtblaoljlcdgemaaW.PrintLast Go.Proofs.YtblaoljlcdgemaaW.PrintMore Go.Proofs.Ytblaoljlcdgemaa.Plain Go.Proofs.Ytblaoljlcdgemaa.Evl Go.Proofs.Ytblaoljlcdgemaa.Sum

theorem xor8 {x y : Int} (hx : 0 ≤ x ∧ x ≤ 255) (hy : 0 ≤ y ∧ y ≤ 255) : (0 ≤ Go.bits .xor .u8 x y ∧ Go.bits .xor .u8 x y ≤ 255) ∧ byt (Go.bits .xor .u8 x y) = byt x ^^^ byt y := by
  have h1 := byt_nat hx.1 hx.2
  have h2 := byt_nat hy.1 hy.2
  have e : Go.bits .xor .u8 x y = ((byt x ^^^ byt y).toNat : Int) := by
    rw [← h1, ← h2, u8_xor_nat _ _ (byt x).isLt (byt y).isLt, BitVec.toNat_xor]
    have e1 : byt ((byt x).toNat : Int) = byt x := by rw [h1]
    have e2 : byt ((byt y).toNat : Int) = byt y := by rw [h2]
    rw [e1, e2]
  have := (byt x ^^^ byt y).isLt
  refine ⟨by rw [e]; omega, ?_⟩
  exact byt_of e
theorem rdm {l : List Int} {i : Int} (h0 : 0 ≤ i) (h1 : i < (l.length : Int)) : rd l i ∈ l := by
  unfold rd
  rw [List.getD_eq_getElem?_getD, List.getElem?_eq_getElem (by omega)]
  simp

theorem bitAt_byte : ∀ (l : List (BitVec 8)) (j : Nat), bitAt l j = (l.getD (j / 8) 0#8).getLsbD (7 - j % 8)
  | [], j => by simp [bitAt]
  | c :: l, j => by
    have ih := bitAt_byte l (j - 8)
    unfold bitAt at ih ⊢
    rw [List.flatMap_cons]
    by_cases h : j < 8
    · rw [List.getD_eq_getElem?_getD, List.getElem?_append_left (by simp [Sum.bits]; omega)]
      have e0 : j / 8 = 0 := by omega
      have e1 : j % 8 = j := by omega
      rw [e0, e1]
      have : j = 0 ∨ j = 1 ∨ j = 2 ∨ j = 3 ∨ j = 4 ∨ j = 5 ∨ j = 6 ∨ j = 7 := by omega
      rcases this with rfl | rfl | rfl | rfl | rfl | rfl | rfl | rfl <;> rfl
    · rw [List.getD_eq_getElem?_getD, List.getElem?_append_right (by simp [Sum.bits]; omega), show (Sum.bits c).length = 8 from rfl]
      rw [List.getD_eq_getElem?_getD] at ih
      rw [ih]
      have e0 : j / 8 = (j - 8) / 8 + 1 := by omega
      have e1 : (j - 8) % 8 = j % 8 := by omega
      rw [e0, e1]
      simp
/-- One bit of a byte. -/
theorem one_bit (r : Int) (h0 : 0 ≤ r) (h1 : r < 8) : 0 ≤ shr .u8 128 r ∧ shr .u8 128 r ≤ 255 ∧ ∀ q : Nat, q < 8 → q ≠ r.toNat → (byt (shr .u8 128 r)).getLsbD (7 - q) = false := by
  have h : ∀ r : Fin 8, (0 ≤ shr .u8 128 (r.val : Int) ∧ shr .u8 128 (r.val : Int) ≤ 255) ∧ ∀ q : Fin 8, q.val ≠ r.val → (byt (shr .u8 128 (r.val : Int))).getLsbD (7 - q.val) = false := by decide +kernel
  have hr := h ⟨r.toNat, by omega⟩
  rw [show ((⟨r.toNat, by omega⟩ : Fin 8).val : Int) = r by simp; omega] at hr
  exact ⟨hr.1.1, hr.1.2, fun q hq hne => hr.2 ⟨q, hq⟩ hne⟩
theorem turn_bit {x : List Int} (hb : Bys x) (p : Int) (h0 : 0 ≤ p) (h1 : p / 8 < (x.length : Int)) :
    Bys (x.set (p / 8).toNat (Go.bits .xor .u8 (rd x (p / 8)) (shr .u8 128 (p % 8)))) ∧
      ∀ j : Nat, j ≠ p.toNat → bitAt (L (x.set (p / 8).toNat (Go.bits .xor .u8 (rd x (p / 8)) (shr .u8 128 (p % 8))))) j = bitAt (L x) j := by
  obtain ⟨o1, o2, o3⟩ := one_bit (p % 8) (by omega) (by omega)
  have hx := hb _ (rdm (l := x) (i := p / 8) (by omega) h1)
  have hv := xor8 hx ⟨o1, o2⟩
  constructor
  · intro y hy
    rcases List.mem_or_eq_of_mem_set hy with h | h
    · exact hb y h
    · rw [h]; exact hv.1
  · intro j hj
    rw [bitAt_byte, bitAt_byte]
    have hq : (p / 8).toNat < x.length := by omega
    have e : L (x.set (p / 8).toNat (Go.bits .xor .u8 (rd x (p / 8)) (shr .u8 128 (p % 8)))) = (L x).set (p / 8).toNat (byt (rd x (p / 8)) ^^^ byt (shr .u8 128 (p % 8))) := by
      unfold L
      rw [List.map_set, hv.2]
    rw [e]
    by_cases hj8 : j / 8 = (p / 8).toNat
    · rw [List.getD_eq_getElem?_getD, List.getD_eq_getElem?_getD, hj8, List.getElem?_set_self (by rw [L_length]; exact hq), List.getElem?_eq_getElem (by rw [L_length]; exact hq)]
      simp only [Option.getD_some, BitVec.getLsbD_xor]
      rw [o3 (j % 8) (by omega) (by omega)]
      have e2 : (L x)[(p / 8).toNat]'(by rw [L_length]; exact hq) = byt (rd x (p / 8)) := by
        unfold L rd
        rw [List.getElem_map, List.getD_eq_getElem?_getD, List.getElem?_eq_getElem hq]
        rfl
      rw [e2]
      simp
    · rw [List.getD_eq_getElem?_getD, List.getD_eq_getElem?_getD, List.getElem?_set_ne (fun h => hj8 h.symm)]
theorem turned_loop {at_ row : Int} {n : Nat} (a0 : 0 ≤ at_) (a1 : at_ ≤ 100000) (hn : n ≤ 10000) (d : Nat) : ∀ (i : Int) (x : List Int), 0 ≤ i → i + d = 32 → x.length = n → Bys x →
    ∃ c, Evl (fun k => drumlinelaw2_turned.l0 k at_ row x i) c ∧ c.length = n ∧ Bys c ∧ ∀ j : Nat, (j < at_.toNat ∨ at_.toNat + 32 ≤ j) → bitAt (L c) j = bitAt (L x) j := by
  induction d with
  | zero =>
    intro i x h0 h1 h2 h3
    refine ⟨x, Evl.step (h := fun k => drumlinelaw2_turned.j1 k at_ row x i false) (fun k => ?_) (Evl.stop (fun k => ?_)), h2, h3, fun _ _ => rfl⟩
    · simp only [drumlinelaw2_turned.l0]
      rw [if_neg (by omega)]
    · simp only [drumlinelaw2_turned.j1]
      rw [if_neg (by simp)]
  | succ d ih =>
    intro i x h0 h1 h2 h3
    have ew : wrap64 (at_ + i) = at_ + i := w64 (by omega) (by omega)
    have e8 : wrap64 (8 * (x.length : Int)) = 8 * (x.length : Int) := w64 (by omega) (by omega)
    by_cases hlt : at_ + i < 8 * (x.length : Int)
    · have hq : (at_ + i) / 8 < (x.length : Int) := by omega
      have step : ∀ {c : List Int} (y : List Int), Evl (fun k => drumlinelaw2_turned.l0 k at_ row y (i + 1)) c →
          (∀ k, drumlinelaw2_turned.j1 (k + 1) at_ row x i true = drumlinelaw2_turned.l0 k at_ row y (i + 1)) → Evl (fun k => drumlinelaw2_turned.l0 k at_ row x i) c := by
        intro c y hy he
        refine Evl.step (h := fun k => drumlinelaw2_turned.j1 k at_ row x i true) (fun k => ?_) (Evl.step he hy)
        simp only [drumlinelaw2_turned.l0]
        rw [if_pos (by omega), ew, e8, decide_eq_true hlt]
      by_cases hb : Go.bits .and .u32 (shr .u32 row (IntKind.u64.wrap i)) 1 = 1
      · obtain ⟨t1, t2⟩ := turn_bit h3 (at_ + i) (by omega) hq
        obtain ⟨c, c1, c2, c3, c4⟩ := ih (i + 1) _ (by omega) (by omega) (by rw [List.length_set]; exact h2) t1
        refine ⟨c, step _ c1 (fun k => ?_), c2, c3, fun j hj => (c4 j hj).trans (t2 j (by omega))⟩
        have ed : wrap64 (Int.tdiv (at_ + i) 8) = (at_ + i) / 8 := by
          rw [Int.tdiv_eq_ediv_of_nonneg (by omega)]
          exact w64 (by omega) (by omega)
        have em : IntKind.u64.wrap (Int.tmod (at_ + i) 8) = (at_ + i) % 8 := by
          rw [Int.tmod_eq_emod_of_nonneg (by omega)]
          simp [IntKind.wrap, IntKind.signed, IntKind.bits]; omega
        simp only [drumlinelaw2_turned.j1, if_true, ew, ed, em]
        rw [if_pos (show 0 ≤ IntKind.u64.wrap i by simp [IntKind.wrap, IntKind.signed, IntKind.bits]; omega), if_pos hb, if_pos (by omega), if_pos hq, if_pos (by omega), w64 (x := i + 1) (by omega) (by omega)]
      · obtain ⟨c, c1, c2, c3, c4⟩ := ih (i + 1) x (by omega) (by omega) h2 h3
        refine ⟨c, step x c1 (fun k => ?_), c2, c3, c4⟩
        simp only [drumlinelaw2_turned.j1, if_true]
        rw [if_pos (show 0 ≤ IntKind.u64.wrap i by simp [IntKind.wrap, IntKind.signed, IntKind.bits]; omega), if_neg hb, w64 (x := i + 1) (by omega) (by omega)]
    · refine ⟨x, Evl.step (h := fun k => drumlinelaw2_turned.j1 k at_ row x i false) (fun k => ?_) (Evl.stop (fun k => ?_)), h2, h3, fun _ _ => rfl⟩
      · simp only [drumlinelaw2_turned.l0]
        rw [if_pos (by omega), ew, e8, decide_eq_false hlt]
      · simp only [drumlinelaw2_turned.j1]
        rw [if_neg (by simp)]
theorem turned_evl {at_ row : Int} {x : List Int} (a0 : 0 ≤ at_) (a1 : at_ ≤ 100000) (hn : x.length ≤ 10000) (hb : Bys x) :
    ∃ c, Evl (fun k => drumlinelaw2_turned.f k x at_ row) c ∧ c.length = x.length ∧ Bys c ∧ ∀ j : Nat, (j < at_.toNat ∨ at_.toNat + 32 ≤ j) → bitAt (L c) j = bitAt (L x) j := by
  obtain ⟨c, c1, c2⟩ := turned_loop (row := row) a0 a1 hn 32 0 x (by omega) (by omega) rfl hb
  refine ⟨c, ?_, c2⟩
  unfold drumlinelaw2_turned.f
  simp only [if_pos (show ([] : List Int).length + x.length < 140737488355328 by simp; omega), List.nil_append]
  exact c1
theorem L_sld (l : List Int) : L (sld l) = L l ++ Sum.bytes (more 0#32 (L l)) := by
  unfold sld
  rw [L_append, L_sb]
theorem sld_take (l : List Int) : (sld l).take ((sld l).length - 4) = l := by
  rw [sld_length]
  unfold sld
  simp
theorem SumBursts : drumlinelaw2_SumBursts.Pure := by
  intro b at_ row _ _ hb hat hrow
  have hb := bys_of hb
  obtain ⟨a0, a1⟩ := wfu16 hat
  refine Evl.some_ ?_
  unfold drumlinelaw2_SumBursts.f
  refine Evl.bind alive_evl ?_
  simp only [if_true]
  have out : Evl (fun k => drumlinelaw2_SumBursts.j0 k b at_ row true) true := by
    refine Evl.succ ?_
    simp only [drumlinelaw2_SumBursts.j0, if_true]
    exact Evl.bind alive_evl (Evl.now fun _ => rfl)
  by_cases h1 : (b.length : Int) = 0
  · simp only [if_pos h1]; exact out
  simp only [if_neg h1]
  by_cases h2 : (b.length : Int) > 1000
  · simp only [decide_eq_true h2]; exact out
  simp only [decide_eq_false h2]
  refine Evl.succ ?_
  simp only [drumlinelaw2_SumBursts.j0, Bool.false_eq_true, if_false]
  rw [w64 (x := 8 * (b.length : Int)) (by omega) (by omega), w64 (x := at_) (by omega) (by omega), Int.tmod_eq_emod_of_nonneg a0]
  have p0 := Int.emod_nonneg at_ (show (8 * (b.length : Int)) ≠ 0 by omega)
  have p1 := Int.emod_lt_of_pos at_ (show 0 < 8 * (b.length : Int) by omega)
  simp only [if_neg (show ¬ 8 * (b.length : Int) = 0 by omega)]
  generalize at_ % (8 * (b.length : Int)) = p at p0 p1
  obtain ⟨c, c1, c2, c3, c4⟩ := turned_evl (row := row) (x := b) p0 (by omega) (by omega) hb
  refine Evl.bind c1 (Evl.bind (seal_evl hb (by omega)) ?_)
  have hsl := sld_length b
  rw [w64 (x := (b.length : Int) + 4) (by omega) (by omega), w64 (x := 8 * ((sld b).length : Int)) (by omega) (by omega), Int.tmod_eq_emod_of_nonneg a0]
  simp only [if_pos (show ((sld b).length : Int) = (b.length : Int) + 4 by omega), if_neg (show ¬ 8 * ((sld b).length : Int) = 0 by omega)]
  have q0 := Int.emod_nonneg at_ (show (8 * ((sld b).length : Int)) ≠ 0 by omega)
  have q1 := Int.emod_lt_of_pos at_ (show 0 < 8 * ((sld b).length : Int) by omega)
  generalize at_ % (8 * ((sld b).length : Int)) = q at q0 q1
  obtain ⟨d, d1, d2, d3, d4⟩ := turned_evl (row := row) (x := sld b) q0 (by omega) (by omega) (sld_bys hb)
  refine Evl.bind d1 (Evl.bind (open_evl d3 (by omega)) (Evl.bind (of_evl hb (by omega)) (Evl.bind (of_evl c3 (by omega)) (Evl.now fun _ => ?_))))
  have e1 : (V (more 0#32 (L b)) == V (more 0#32 (L c))) = ((strOfNums b).toList == (strOfNums c).toList) := by
    rw [Bool.eq_iff_iff, beq_iff_eq, beq_iff_eq, str_same hb c3]
    constructor
    · intro h
      have h' := V_inj h
      exact L_inj hb c3 (burst_sums (at_ := p.toNat) (by rw [L_length, L_length, c2]) (fun i hi => (c4 i hi).symm) 0#32 h')
    · intro h; rw [h]
  have e2 : isSld d = ((strOfNums d).toList == (strOfNums (sld b)).toList) := by
    rw [Bool.eq_iff_iff, beq_iff_eq, str_same d3 (sld_bys hb)]
    unfold isSld
    rw [decide_eq_true_iff]
    constructor
    · rintro ⟨g1, g2⟩
      have hlen : b.length = (d.take (d.length - 4)).length := by rw [List.length_take]; omega
      have := burst_sealed (b := L b) (d := L (d.take (d.length - 4))) (at_ := q.toNat) (by rw [L_length, L_length, hlen]) (fun i hi => by
        rw [← L_sld, ← L_sld, g2]
        exact (d4 i hi).symm)
      rw [← L_sld, ← L_sld, g2] at this
      exact (L_inj (sld_bys hb) d3 this).symm
    · intro h
      rw [h]
      exact ⟨by omega, by rw [sld_take]⟩
  rw [e1, if_pos (by simp)]
  have e3 : (if isSld d = true then (d.take (d.length - 4), true) else (([] : List Int), false)).2 = isSld d := by
    cases isSld d <;> rfl
  rw [e3, e2]
  simp

end Go.Proofs.Ytblaoljlcdgemaa.Pure
