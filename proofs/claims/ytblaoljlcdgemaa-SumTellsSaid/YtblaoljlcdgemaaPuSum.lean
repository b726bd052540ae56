/- What the sum's functions come to: the register and the bytes of the plain law, for whatever bytes. -/
import Derived.Test.YtblaoljlcdgemaaMSx3
import Derived.Test.YtblaoljlcdgemaaMSx2
import Derived.Test.YtblaoljlcdgemaaSum
import Derived.Test.YtblaoljlcdgemaaPlain
import Derived.Test.YtblaoljlcdgemaaEvl
import Derived.Laws.BitsAllLaws
set_option linter.unusedVariables false
set_option linter.unusedSimpArgs false
namespace Go.Proofs.Ytblaoljlcdgemaa.Pure
open Go.RowKit Go.Proofs.Ytblaoljlcdgemaa.MS Go.Proofs.YtblaoljlcdgemaaW.PrintWords Go.Proofs.YtblaoljlcdgemaaW.PrintLast Go.Proofs.YtblaoljlcdgemaaW.PrintMore Go.Proofs.Ytblaoljlcdgemaa.Plain Go.Proofs.Ytblaoljlcdgemaa.Evl Go.Proofs.Ytblaoljlcdgemaa.Sum

/-- A register as Go's number, a byte as Go's number, and back. -/
def V (x : BitVec 32) : Int := (x.toNat : Int)
def byt (x : Int) : BitVec 8 := BitVec.ofNat 8 x.toNat
def L (l : List Int) : List (BitVec 8) := l.map byt
def Bys (l : List Int) : Prop := ∀ x ∈ l, 0 ≤ x ∧ x ≤ 255
theorem V_lt (x : BitVec 32) : 0 ≤ V x ∧ V x < 4294967296 := by
  have := x.isLt
  unfold V; omega
theorem V_inj {x y : BitVec 32} (h : V x = V y) : x = y := BitVec.eq_of_toNat_eq (by unfold V at h; omega)
theorem V_of {s : Int} (h0 : 0 ≤ s) (h1 : s ≤ 4294967295) : V (BitVec.ofNat 32 s.toNat) = s := by
  unfold V
  rw [BitVec.toNat_ofNat]
  omega
theorem byt_nat {x : Int} (h0 : 0 ≤ x) (h1 : x ≤ 255) : ((byt x).toNat : Int) = x := by
  unfold byt
  rw [BitVec.toNat_ofNat]
  omega
theorem byt_inj {x y : Int} (h0 : 0 ≤ x) (h1 : x ≤ 255) (g0 : 0 ≤ y) (g1 : y ≤ 255) (h : byt x = byt y) : x = y := by
  rw [← byt_nat h0 h1, ← byt_nat g0 g1, h]
theorem L_inj : ∀ {l m : List Int}, Bys l → Bys m → L l = L m → l = m
  | [], [], _, _, _ => rfl
  | [], _ :: _, _, _, h => by simp [L] at h
  | _ :: _, [], _, _, h => by simp [L] at h
  | x :: l, y :: m, hl, hm, h => by
    simp only [L, List.map_cons, List.cons.injEq] at h
    have a := hl x (by simp)
    have b := hm y (by simp)
    rw [byt_inj a.1 a.2 b.1 b.2 h.1, L_inj (fun z hz => hl z (by simp [hz])) (fun z hz => hm z (by simp [hz])) h.2]
theorem L_length (l : List Int) : (L l).length = l.length := by simp [L]
theorem L_append (l m : List Int) : L (l ++ m) = L l ++ L m := by simp [L]

theorem xor_V (x y : BitVec 32) : Go.bits .xor .u32 (V x) (V y) = V (x ^^^ y) := by
  unfold V
  rw [u32_xor_nat _ _ x.isLt y.isLt, BitVec.toNat_xor]
theorem not_V (x : BitVec 32) : Go.bits .xor .u32 4294967295 (V x) = V (~~~ x) := by
  have e : (4294967295 : Int) = V (BitVec.allOnes 32) := rfl
  rw [e, xor_V, BitVec.allOnes_xor]
theorem dbl_V (x : BitVec 32) : (V x * (2 : Int)) % (4294967296 : Int) = V (x <<< (1 : Nat)) := by
  unfold V
  rw [BitVec.toNat_shiftLeft, Nat.shiftLeft_eq]
  omega
theorem poly_V : (79764919 : Int) = V 0x04c11db7#32 := rfl
theorem msb_nat (x : BitVec 32) : x.msb = decide (2147483648 ≤ x.toNat) := by
  rw [BitVec.msb_eq_decide]
theorem and_V (x : BitVec 32) : (Go.bits .and .u32 (V x) 2147483648 = 0) ↔ x.msb = false := by
  have h : Go.bits .and .u32 (V x) 2147483648 = ((x.toNat &&& 2 ^ 31 : Nat) : Int) := u32_and_nat _ _ x.isLt (by decide)
  rw [h, BitVec.msb_eq_getLsbD_last]
  show _ ↔ x.toNat.testBit 31 = false
  constructor
  · intro e
    have e' : x.toNat &&& 2 ^ 31 = 0 := by omega
    have := congrArg (fun n => n.testBit 31) e'
    simpa [Nat.testBit_and, show Nat.testBit 2147483648 31 = true by decide] using this
  · intro e
    have : x.toNat &&& 2 ^ 31 = 0 := by
      apply Nat.eq_of_testBit_eq
      intro i
      rw [Nat.testBit_and, Nat.testBit_two_pow, Nat.zero_testBit]
      by_cases hi : 31 = i
      · subst hi; rw [e]; rfl
      · simp [hi]
    omega
theorem stp_V0 {x : BitVec 32} (h : x.msb = false) : (V x * 2) % 4294967296 = V (stp x) := by
  unfold stp
  rw [h, dbl_V]
  simp
theorem stp_V1 {x : BitVec 32} (h : x.msb = true) : Go.bits .xor .u32 ((V x * 2) % 4294967296) 79764919 = V (stp x) := by
  unfold stp
  rw [h, dbl_V, poly_V, xor_V]
  rfl
theorem top_V {c : Int} (h0 : 0 ≤ c) (h1 : c ≤ 255) : ((c % 4294967296) * 16777216) % 4294967296 = V (top (byt c)) := by
  unfold V top
  rw [BitVec.toNat_shiftLeft, BitVec.toNat_setWidth, Nat.shiftLeft_eq]
  have := byt_nat h0 h1
  have h2 : (byt c).toNat < 256 := (byt c).isLt
  have h3 : (byt c).toNat % 2 ^ 32 = (byt c).toNat := Nat.mod_eq_of_lt (by omega)
  rw [h3]
  omega
theorem step_loop (d : Nat) : ∀ (i : Int) (x : BitVec 32), 0 ≤ i → i + d = 8 → Evl (fun k => sum_step.l0 k (V x) i) (V (stpn d x)) := by
  induction d with
  | zero =>
    intro i x h0 h1
    refine Evl.stop (fun k => ?_)
    simp only [sum_step.l0, stpn]
    rw [if_neg (by omega)]
  | succ d ih =>
    intro i x h0 h1
    refine Evl.step (fun k => ?_) (ih (i + 1) (stp x) (by omega) (by omega))
    simp only [sum_step.l0]
    rw [if_pos (by omega), w64 (x := i + 1) (by omega) (by omega)]
    cases hm : x.msb with
    | false => rw [if_pos ((and_V x).2 hm), stp_V0 hm]
    | true => rw [if_neg (by rw [and_V, hm]; simp), stp_V1 hm]
theorem step_evl (x : BitVec 32) : Evl (fun k => sum_step.f k (V x)) (V (st8 x)) := step_loop 8 0 x (by omega) (by omega)
theorem more_loop {l : List Int} (hb : Bys l) (hl : l.length ≤ 100000) (d : Nat) : ∀ (i : Int) (x : BitVec 32), 0 ≤ i → i + d = l.length → Evl (fun k => sum_More.l0 k (V x) l (l.length : Int) i) (V (~~~ (run x (L (l.drop i.toNat))))) := by
  induction d with
  | zero =>
    intro i x h0 h1
    refine Evl.stop (fun k => ?_)
    simp only [sum_More.l0]
    rw [if_neg (by omega), List.drop_eq_nil_of_le (by omega), not_V]
    rfl
  | succ d ih =>
    intro i x h0 h1
    have e : l.drop i.toNat = rd l i :: l.drop (i + 1).toNat := by
      rw [List.drop_eq_getElem_cons (by omega), show (i + 1).toNat = i.toNat + 1 by omega]
      unfold rd
      simp [List.getD_eq_getElem?_getD, List.getElem?_eq_getElem (show i.toNat < l.length by omega)]
    have hc := hb (rd l i) (by
      unfold rd
      rw [List.getD_eq_getElem?_getD, List.getElem?_eq_getElem (by omega)]
      simp)
    refine Evl.succ ?_
    simp only [sum_More.l0, if_pos (show i < (l.length : Int) by omega), if_pos h0]
    rw [top_V hc.1 hc.2, xor_V, w64 (x := i + 1) (by omega) (by omega)]
    refine Evl.bind (step_evl _) ?_
    have := ih (i + 1) (st8 (x ^^^ top (byt (rd l i)))) (by omega) (by omega)
    rw [e]
    exact this
theorem more_evl {l : List Int} (hb : Bys l) (hl : l.length ≤ 100000) (s : BitVec 32) : Evl (fun k => sum_More.f k (V s) l) (V (more s (L l))) := by
  unfold sum_More.f
  rw [not_V]
  exact more_loop hb hl l.length 0 (~~~ s) (by omega) (by omega)
theorem of_evl {l : List Int} (hb : Bys l) (hl : l.length ≤ 100000) : Evl (fun k => sum_Of.f k l) (V (more 0#32 (L l))) := by
  unfold sum_Of.f
  exact Evl.bind (more_evl hb hl 0#32) (Evl.now fun _ => rfl)
/-- A register's bytes as Go's numbers. -/
def sb (r : BitVec 32) : List Int := [(V r / 16777216) % 256, (V r / 65536) % 256, (V r / 256) % 256, V r % 256]
theorem sb_bys (r : BitVec 32) : Bys (sb r) := by
  intro x hx
  simp only [sb, List.mem_cons, List.not_mem_nil, or_false] at hx
  omega
theorem byt_of {x : Int} {c : BitVec 8} (h : x = (c.toNat : Int)) : byt x = c := by
  subst h
  unfold byt
  simp
theorem L_sb (r : BitVec 32) : L (sb r) = Sum.bytes r := by
  have h := r.isLt
  simp only [L, sb, Sum.bytes, List.map_cons, List.map_nil, List.cons.injEq, and_true]
  refine ⟨byt_of ?_, byt_of ?_, byt_of ?_, byt_of ?_⟩
  · simp only [BitVec.truncate_eq_setWidth, BitVec.toNat_setWidth, BitVec.toNat_ushiftRight, Nat.shiftRight_eq_div_pow, V]; omega
  · simp only [BitVec.truncate_eq_setWidth, BitVec.toNat_setWidth, BitVec.toNat_ushiftRight, Nat.shiftRight_eq_div_pow, V]; omega
  · simp only [BitVec.truncate_eq_setWidth, BitVec.toNat_setWidth, BitVec.toNat_ushiftRight, Nat.shiftRight_eq_div_pow, V]; omega
  · simp only [BitVec.truncate_eq_setWidth, BitVec.toNat_setWidth, V]; omega
/-- Sealed bytes. -/
def sld (l : List Int) : List Int := l ++ sb (more 0#32 (L l))
theorem sld_length (l : List Int) : (sld l).length = l.length + 4 := by simp [sld, sb]
theorem bys_append {l m : List Int} (hl : Bys l) (hm : Bys m) : Bys (l ++ m) := by
  intro x hx
  rcases List.mem_append.1 hx with h | h
  · exact hl x h
  · exact hm x h
theorem sld_bys {l : List Int} (hb : Bys l) : Bys (sld l) := bys_append hb (sb_bys _)
theorem bys_take {l : List Int} (hb : Bys l) (n : Nat) : Bys (l.take n) := fun x hx => hb x (List.mem_of_mem_take hx)
theorem seal_evl {l : List Int} (hb : Bys l) (hl : l.length ≤ 100000) : Evl (fun k => sum_Seal.f k l) (sld l) := by
  unfold sum_Seal.f
  refine Evl.bind (of_evl hb hl) (Evl.now fun _ => ?_)
  rw [if_pos (by simp; omega)]
  simp only [Option.bind_some, List.nil_append]
  rw [if_pos (by simp; omega)]
  rfl
theorem str_same {a b : List Int} (ha : Bys a) (hb : Bys b) : (strOfNums a).toList = (strOfNums b).toList ↔ a = b := by
  constructor
  · intro h
    have ea : ∀ l : List Int, (strOfNums l).toList = l.map (fun n => UInt8.ofNat n.toNat) := by
      intro l
      rw [ByteArray.toList_eq]
      unfold strOfNums
      simp
    rw [ea, ea] at h
    clear ea
    induction a generalizing b with
    | nil => cases b with
      | nil => rfl
      | cons y b => simp at h
    | cons x a ih => cases b with
      | nil => simp at h
      | cons y b =>
        simp only [List.map_cons, List.cons.injEq] at h
        have hx := ha x (by simp)
        have hy := hb y (by simp)
        have e : x = y := by
          have := congrArg UInt8.toNat h.1
          simp only [UInt8.toNat_ofNat'] at this
          omega
        rw [e, ih (fun z hz => ha z (by simp [hz])) (fun z hz => hb z (by simp [hz])) h.2]
  · intro h; rw [h]
/-- Whether bytes are sealed. -/
def isSld (l : List Int) : Bool := decide (4 ≤ l.length ∧ sld (l.take (l.length - 4)) = l)
theorem open_evl {l : List Int} (hb : Bys l) (hl : l.length ≤ 100000) : Evl (fun k => sum_Open.f k l) (if isSld l = true then (l.take (l.length - 4), true) else ([], false)) := by
  unfold sum_Open.f
  rw [w64 (x := (l.length : Int) - 4) (by omega) (by omega)]
  have e : ((l.length : Int) - 4).toNat = l.length - 4 := by omega
  by_cases h : (l.length : Int) - 4 < 0
  · have : isSld l = false := by unfold isSld; simp; omega
    simp only [if_pos h, this]
    exact Evl.now fun _ => rfl
  · simp only [if_neg h, if_pos (show 0 ≤ (l.length : Int) - 4 by omega), if_pos (show (l.length : Int) - 4 ≤ (l.length : Int) by omega), e]
    refine Evl.bind (seal_evl (bys_take hb _) (by simp; omega)) (Evl.now fun _ => ?_)
    by_cases hs : sld (l.take (l.length - 4)) = l
    · have : isSld l = true := by unfold isSld; simp [hs]; omega
      rw [if_pos ((str_same (sld_bys (bys_take hb _)) hb).2 hs), this, if_pos (by simp; omega)]
      rfl
    · have : isSld l = false := by unfold isSld; simp [hs]
      rw [if_neg (fun h => hs ((str_same (sld_bys (bys_take hb _)) hb).1 h)), this]
      rfl
theorem alive_evl : Evl (fun k => drumlinelaw2_alive.f k) true :=
  Evl.mono (fun k => drumlinelaw2_alive.mono k) (n := 100) (by decide +kernel)
theorem bys_of {l : List Int} (h : ∀ x ∈ l, (Lit.int .u8 x).wf = true) : Bys l := fun x hx => wfu8 (h x hx)
end Go.Proofs.Ytblaoljlcdgemaa.Pure
