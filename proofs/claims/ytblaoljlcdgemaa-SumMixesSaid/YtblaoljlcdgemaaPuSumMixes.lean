/- SumMixes: the sum of three rows of one length, bit by bit, is the three sums, bit by bit. No conditions. -/
import Derived.Test.YtblaoljlcdgemaaMSx8
import Derived.Test.YtblaoljlcdgemaaPuSum
set_option linter.unusedVariables false
set_option linter.unusedSimpArgs false
namespace Go.Proofs.Ytblaoljlcdgemaa.Pure
open Go.RowKit Go.Proofs.Ytblaoljlcdgemaa.MS Go.Proofs.YtblaoljlcdgemaaW.PrintWords Go.Proofs.YtblaoljlcdgemaaW.PrintLast Go.Proofs.YtblaoljlcdgemaaW.PrintMore Go.Proofs.Ytblaoljlcdgemaa.Plain Go.Proofs.Ytblaoljlcdgemaa.Evl Go.Proofs.Ytblaoljlcdgemaa.Sum

theorem xor8 {x y : Int} (hx : 0 ≤ x ∧ x ≤ 255) (hy : 0 ≤ y ∧ y ≤ 255) : (0 ≤ Go.bits .xor .u8 x y ∧ Go.bits .xor .u8 x y ≤ 255) ∧ byt (Go.bits .xor .u8 x y) = byt x ^^^ byt y := by
  have h1 := byt_nat hx.1 hx.2
  have h2 := byt_nat hy.1 hy.2
  have e : Go.bits .xor .u8 x y = ((byt x ^^^ byt y).toNat : Int) := by
    rw [← h1, ← h2, u8_xor_nat _ _ (byt x).isLt (byt y).isLt, BitVec.toNat_xor]
    have e1 : byt ((byt x).toNat : Int) = byt x := by rw [h1]
    have e2 : byt ((byt y).toNat : Int) = byt y := by rw [h2]
    rw [e1, e2]
  have := (byt x ^^^ byt y).isLt
  refine ⟨by rw [e]; omega, ?_⟩
  exact byt_of e
/-- Three numbers, bit by bit. -/
def x3 (a b c : Int) : Int := Go.bits .xor .u8 (Go.bits .xor .u8 a b) c
theorem rdm {l : List Int} {i : Int} (h0 : 0 ≤ i) (h1 : i < (l.length : Int)) : rd l i ∈ l := by
  unfold rd
  rw [List.getD_eq_getElem?_getD, List.getElem?_eq_getElem (by omega)]
  simp
/-- The row of three rows from place i on. -/
def z3 (a b c : List Int) : Nat → Int → List Int
  | 0, _ => []
  | d + 1, i => x3 (rd a i) (rd b i) (rd c i) :: z3 a b c d (i + 1)
theorem z3_length (a b c : List Int) : ∀ (d : Nat) (i : Int), (z3 a b c d i).length = d
  | 0, _ => rfl
  | d + 1, i => by simp [z3, z3_length a b c d (i + 1)]
theorem dropc {l : List Int} {i : Int} (h0 : 0 ≤ i) (h1 : i < (l.length : Int)) : l.drop i.toNat = rd l i :: l.drop (i + 1).toNat := by
  rw [List.drop_eq_getElem_cons (by omega), show (i + 1).toNat = i.toNat + 1 by omega]
  unfold rd
  simp [List.getD_eq_getElem?_getD, List.getElem?_eq_getElem (show i.toNat < l.length by omega)]
theorem L_z3 {a b c : List Int} (ha : Bys a) (hb : Bys b) (hc : Bys c) (hab : a.length ≤ b.length) (hac : a.length ≤ c.length) : ∀ (d : Nat) (i : Int), 0 ≤ i → i + d = a.length →
    L (z3 a b c d i) = mix (mix (L (a.drop i.toNat)) (L ((b.take a.length).drop i.toNat))) (L ((c.take a.length).drop i.toNat)) ∧ Bys (z3 a b c d i)
  | 0, i, h0, h1 => by
    rw [List.drop_eq_nil_of_le (by omega : a.length ≤ i.toNat)]
    exact ⟨rfl, fun x hx => by simp [z3] at hx⟩
  | d + 1, i, h0, h1 => by
    have ih := L_z3 ha hb hc hab hac d (i + 1) (by omega) (by omega)
    have a1 := ha _ (rdm (l := a) (i := i) h0 (by omega))
    have b1 := hb _ (rdm (l := b) (i := i) h0 (by omega))
    have c1 := hc _ (rdm (l := c) (i := i) h0 (by omega))
    have tk : ∀ l : List Int, a.length ≤ l.length → rd (l.take a.length) i = rd l i := by
      intro l hl
      unfold rd
      rw [List.getD_eq_getElem?_getD, List.getD_eq_getElem?_getD, List.getElem?_take_of_lt (by omega)]
    have e1 := dropc (l := a) (i := i) h0 (by omega)
    have e2 := dropc (l := b.take a.length) (i := i) h0 (by simp; omega)
    have e3 := dropc (l := c.take a.length) (i := i) h0 (by simp; omega)
    rw [tk b hab] at e2
    rw [tk c hac] at e3
    have x1 := xor8 a1 b1
    have x2 := xor8 x1.1 c1
    constructor
    · rw [e1, e2, e3]
      simp only [z3, L, List.map_cons, mix_cons]
      have := ih.1
      simp only [L] at this
      rw [this]
      congr 1
      unfold x3
      rw [x2.2, x1.2]
    · intro x hx
      rcases List.mem_cons.1 hx with rfl | hx
      · exact x2.1
      · exact ih.2 x hx
theorem mixes_end {a b c x : List Int} (ha : Bys a) (hb : Bys b) (hc : Bys c) (hal : a.length ≤ 500) (hab : a.length ≤ b.length) (hac : a.length ≤ c.length) (hx : x = z3 a b c a.length 0) (i : Int) (hi : ¬ i < (x.length : Int)) :
    Evl (fun k => drumlinelaw2_SumMixes.l0 k a b c x i) true := by
  have hL := L_z3 ha hb hc hab hac a.length 0 (by omega) (by omega)
  simp only [Int.toNat_zero, List.drop_zero] at hL
  have hxb : Bys x := by rw [hx]; exact hL.2
  have hxl : x.length ≤ 100000 := by rw [hx, z3_length]; omega
  refine Evl.succ ?_
  simp only [drumlinelaw2_SumMixes.l0, if_neg hi]
  refine Evl.bind (of_evl hxb hxl) (Evl.bind (of_evl ha (by omega)) ?_)
  simp only [if_pos (show 0 ≤ (a.length : Int) by omega), if_pos (show (a.length : Int) ≤ (b.length : Int) by omega), if_pos (show (a.length : Int) ≤ (c.length : Int) by omega), Int.toNat_natCast]
  refine Evl.bind (of_evl (bys_take hb _) (by simp; omega)) (Evl.bind (of_evl (bys_take hc _) (by simp; omega)) (Evl.now fun _ => ?_))
  have l1 : (L a).length = (L (b.take a.length)).length := by rw [L_length, L_length]; simp; omega
  have l2 : (L a).length = (L (c.take a.length)).length := by rw [L_length, L_length]; simp; omega
  rw [xor_V, xor_V, hx, hL.1, more_three _ _ _ l1 l2]
  simp
theorem mixes_loop {a b c : List Int} (ha : Bys a) (hb : Bys b) (hc : Bys c) (hal : a.length ≤ 500) (hab : a.length ≤ b.length) (hac : a.length ≤ c.length) (d : Nat) :
    ∀ (i : Int) (x : List Int), 0 ≤ i → i + d = a.length → x.length = a.length → x.take i.toNat ++ z3 a b c d i = z3 a b c a.length 0 → Evl (fun k => drumlinelaw2_SumMixes.l0 k a b c x i) true := by
  induction d with
  | zero =>
    intro i x h0 h1 h2 h3
    refine mixes_end ha hb hc hal hab hac ?_ i (by omega)
    rw [List.take_of_length_le (by omega)] at h3
    simpa [z3] using h3
  | succ d ih =>
    intro i x h0 h1 h2 h3
    refine Evl.step (fun k => ?_) (ih (i + 1) (x.set i.toNat (x3 (rd a i) (rd b i) (rd c i))) (by omega) (by omega) (by simp [h2]) ?_)
    · simp only [drumlinelaw2_SumMixes.l0]
      rw [if_pos (by omega), if_pos h0, if_pos (by omega), if_pos (by omega), if_pos (by omega), w64 (x := i + 1) (by omega) (by omega)]
      rfl
    · rw [← h3, show (i + 1).toNat = i.toNat + 1 by omega]
      have e : (x.set i.toNat (x3 (rd a i) (rd b i) (rd c i))).take (i.toNat + 1) = x.take i.toNat ++ [x3 (rd a i) (rd b i) (rd c i)] := by
        rw [List.take_succ_eq_append_getElem (by simp; omega), List.take_set, List.set_eq_of_length_le (by simp; omega), List.getElem_set_self]
      rw [e, List.append_assoc]
      rfl
theorem SumMixes : drumlinelaw2_SumMixes.Pure := by
  intro a b c _ _ ha _ _ hb _ _ hc
  refine Evl.some_ ?_
  unfold drumlinelaw2_SumMixes.f
  refine Evl.bind alive_evl ?_
  simp only [if_true]
  have out : Evl (fun k => drumlinelaw2_SumMixes.j0 k a b c true) true := by
    refine Evl.succ ?_
    simp only [drumlinelaw2_SumMixes.j0, if_true]
    exact Evl.bind alive_evl (Evl.now fun _ => rfl)
  by_cases h1 : (a.length : Int) > 500
  · simp only [if_pos h1]; exact out
  simp only [if_neg h1]
  by_cases h2 : (b.length : Int) < (a.length : Int)
  · simp only [if_pos h2]; exact out
  simp only [if_neg h2]
  by_cases h3 : (c.length : Int) < (a.length : Int)
  · simp only [decide_eq_true h3]; exact out
  simp only [decide_eq_false h3]
  refine Evl.succ ?_
  simp only [drumlinelaw2_SumMixes.j0, Bool.false_eq_true, if_false, if_pos (show ([] : List Int).length + a.length < 140737488355328 by simp; omega), List.nil_append]
  exact mixes_loop (bys_of ha) (bys_of hb) (bys_of hc) (by omega) (by omega) (by omega) a.length 0 a (by omega) (by omega) rfl (by simp)

end Go.Proofs.Ytblaoljlcdgemaa.Pure
