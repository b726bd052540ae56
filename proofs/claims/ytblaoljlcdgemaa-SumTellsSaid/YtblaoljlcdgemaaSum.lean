/- The plain law of the sum: a register of 32 bits stepped bit by bit; sums of parts, of three rows, and of rows that are unlike within 32 bits. No program in sight. -/
set_option linter.unusedSimpArgs false
set_option linter.unusedVariables false
namespace Go.Proofs.Ytblaoljlcdgemaa.Sum

/-- One step of the register. -/
def stp (x : BitVec 32) : BitVec 32 := (x <<< 1) ^^^ (if x.msb then 0x04c11db7#32 else 0#32)
theorem stp_xor (x y : BitVec 32) : stp (x ^^^ y) = stp x ^^^ stp y := by
  unfold stp
  rw [BitVec.shiftLeft_xor_distrib, BitVec.msb_xor]
  generalize x <<< 1 = a
  generalize y <<< 1 = b
  have c : (0x04c11db7#32 ^^^ 0x04c11db7#32 : BitVec 32) = 0#32 := by decide
  have d : a ^^^ 0x04c11db7#32 ^^^ (b ^^^ 0x04c11db7#32) = (a ^^^ b) ^^^ (0x04c11db7#32 ^^^ 0x04c11db7#32) := by ac_rfl
  cases x.msb <;> cases y.msb
  · simp
  · simp only [Bool.xor_true, Bool.not_false, Bool.false_eq_true, if_true, if_false, BitVec.xor_zero]; ac_rfl
  · simp only [Bool.xor_false, Bool.false_eq_true, if_true, if_false, BitVec.xor_zero]; ac_rfl
  · simp only [Bool.xor_true, Bool.not_true, Bool.false_eq_true, if_true, if_false]
    rw [d, c]
theorem stp_zero : stp 0#32 = 0#32 := by decide
theorem stp_inj {x : BitVec 32} (h : stp x = 0#32) : x = 0#32 := by
  have h0 : (stp x).getLsbD 0 = x.msb := by
    unfold stp
    rw [BitVec.getLsbD_xor]
    cases x.msb <;> simp
  have hm : x.msb = false := by rw [← h0, h]; simp
  unfold stp at h
  rw [hm] at h
  simp only [Bool.false_eq_true, if_false, BitVec.xor_zero] at h
  apply BitVec.eq_of_getLsbD_eq
  intro i hi
  by_cases e : i = 31
  · subst e
    rw [BitVec.msb_eq_getLsbD_last] at hm
    simpa using hm
  · have h2 := congrArg (fun b : BitVec 32 => b.getLsbD (i + 1)) h
    simp only [BitVec.getLsbD_shiftLeft, BitVec.getLsbD_zero] at h2
    have h3 : i + 1 < 32 := by omega
    simp [h3] at h2
    simp [h2]
/-- Eight steps. -/
def st8 (x : BitVec 32) : BitVec 32 := stp (stp (stp (stp (stp (stp (stp (stp x)))))))
theorem st8_xor (x y : BitVec 32) : st8 (x ^^^ y) = st8 x ^^^ st8 y := by unfold st8; simp only [stp_xor]
theorem st8_zero : st8 0#32 = 0#32 := by decide
theorem st8_inj {x : BitVec 32} (h : st8 x = 0#32) : x = 0#32 := by
  unfold st8 at h
  exact stp_inj (stp_inj (stp_inj (stp_inj (stp_inj (stp_inj (stp_inj (stp_inj h)))))))

/-- A byte at the register's top. -/
def top (c : BitVec 8) : BitVec 32 := (c.zeroExtend 32) <<< 24
theorem top_xor (c d : BitVec 8) : top (c ^^^ d) = top c ^^^ top d := by
  unfold top
  simp [BitVec.shiftLeft_xor_distrib]
theorem top_zero : top 0#8 = 0#32 := by decide
/-- The register behind bytes. -/
def run (r : BitVec 32) (l : List (BitVec 8)) : BitVec 32 := l.foldl (fun r c => st8 (r ^^^ top c)) r
theorem run_cons (r : BitVec 32) (c : BitVec 8) (l : List (BitVec 8)) : run r (c :: l) = run (st8 (r ^^^ top c)) l := rfl
theorem run_append (r : BitVec 32) (l m : List (BitVec 8)) : run r (l ++ m) = run (run r l) m := by simp [run]
/-- The sum of bytes behind a sum. -/
def more (s : BitVec 32) (l : List (BitVec 8)) : BitVec 32 := ~~~ (run (~~~ s) l)
theorem more_append (s : BitVec 32) (l m : List (BitVec 8)) : more s (l ++ m) = more (more s l) m := by
  unfold more
  rw [run_append, BitVec.not_not]
theorem more_nil (s : BitVec 32) : more s [] = s := by simp [more, run]

/-- Two rows, bit by bit. -/
def mix (l m : List (BitVec 8)) : List (BitVec 8) := List.zipWith (· ^^^ ·) l m
theorem xor_swap (a b c d : BitVec 32) : a ^^^ b ^^^ (c ^^^ d) = (a ^^^ c) ^^^ (b ^^^ d) := by ac_rfl
theorem mix_cons (c d : BitVec 8) (l m : List (BitVec 8)) : mix (c :: l) (d :: m) = (c ^^^ d) :: mix l m := rfl
theorem run_mix (l : List (BitVec 8)) : ∀ (m : List (BitVec 8)) (r q : BitVec 32), l.length = m.length → run (r ^^^ q) (mix l m) = run r l ^^^ run q m := by
  induction l with
  | nil =>
    intro m r q h
    cases m with
    | nil => rfl
    | cons d m => exact absurd h (by simp)
  | cons c l ih =>
    intro m r q h
    cases m with
    | nil => exact absurd h (by simp)
    | cons d m =>
      rw [mix_cons, run_cons, run_cons, run_cons, top_xor, xor_swap, st8_xor]
      generalize st8 (r ^^^ top c) = u
      generalize st8 (q ^^^ top d) = v
      exact ih m u v (Nat.succ.inj h)
theorem mix_length {l m : List (BitVec 8)} (h : l.length = m.length) : (mix l m).length = l.length := by simp [mix, h]
/-- Three rows of one length. -/
theorem more_three (l m n : List (BitVec 8)) (h1 : l.length = m.length) (h2 : l.length = n.length) : more 0#32 (mix (mix l m) n) = more 0#32 l ^^^ more 0#32 m ^^^ more 0#32 n := by
  have e : (~~~ 0#32 : BitVec 32) = (~~~ 0#32 ^^^ ~~~ 0#32) ^^^ ~~~ 0#32 := by decide
  unfold more
  conv => lhs; rw [e]
  rw [run_mix _ _ _ _ (by rw [mix_length h1]; exact h2), run_mix _ _ _ _ h1]
  generalize run (~~~ 0#32) l = x
  generalize run (~~~ 0#32) m = y
  generalize run (~~~ 0#32) n = z
  simp only [← BitVec.allOnes_xor]
  have c : (BitVec.allOnes 32 ^^^ BitVec.allOnes 32 : BitVec 32) = 0#32 := by decide
  calc BitVec.allOnes 32 ^^^ (x ^^^ y ^^^ z) = (BitVec.allOnes 32 ^^^ BitVec.allOnes 32) ^^^ BitVec.allOnes 32 ^^^ (x ^^^ y ^^^ z) := by rw [c]; simp
    _ = BitVec.allOnes 32 ^^^ x ^^^ (BitVec.allOnes 32 ^^^ y) ^^^ (BitVec.allOnes 32 ^^^ z) := by ac_rfl

/-! ### bit by bit -/
def msk : BitVec 32 := 0x80000000#32
def bit1 (r : BitVec 32) (b : Bool) : BitVec 32 := stp (r ^^^ (if b then msk else 0#32))
/-- A byte's bits, the highest first. -/
def bits (c : BitVec 8) : List Bool := [c.getLsbD 7, c.getLsbD 6, c.getLsbD 5, c.getLsbD 4, c.getLsbD 3, c.getLsbD 2, c.getLsbD 1, c.getLsbD 0]
def brun (r : BitVec 32) (l : List Bool) : BitVec 32 := l.foldl bit1 r
theorem bit1_xor (r q : BitVec 32) (b : Bool) : bit1 (r ^^^ q) b = stp r ^^^ bit1 q b := by
  unfold bit1
  rw [BitVec.xor_assoc, stp_xor]
def stpn : Nat → BitVec 32 → BitVec 32
  | 0, x => x
  | n + 1, x => stpn n (stp x)
theorem stpn_xor : ∀ (n : Nat) (x y : BitVec 32), stpn n (x ^^^ y) = stpn n x ^^^ stpn n y
  | 0, _, _ => rfl
  | n + 1, x, y => by simp only [stpn, stp_xor, stpn_xor n]
theorem stpn_inj : ∀ (n : Nat) {x : BitVec 32}, stpn n x = 0#32 → x = 0#32
  | 0, _, h => h
  | n + 1, _, h => stp_inj (stpn_inj n h)
theorem stpn_zero : ∀ n : Nat, stpn n 0#32 = 0#32
  | 0 => rfl
  | n + 1 => by simp only [stpn, stp_zero, stpn_zero n]
theorem brun_xor : ∀ (l : List Bool) (r q : BitVec 32), brun (r ^^^ q) l = stpn l.length r ^^^ brun q l
  | [], r, q => rfl
  | b :: l, r, q => by
    show brun (bit1 (r ^^^ q) b) l = stpn l.length (stp r) ^^^ brun (bit1 q b) l
    rw [bit1_xor, brun_xor l]
theorem byte_all : ∀ c : Fin 256, st8 (top (BitVec.ofFin c)) = brun 0#32 (bits (BitVec.ofFin c)) := by decide +kernel
theorem byte_bits (r : BitVec 32) (c : BitVec 8) : st8 (r ^^^ top c) = brun r (bits c) := by
  have h := byte_all c.toFin
  have e : BitVec.ofFin c.toFin = c := rfl
  rw [e] at h
  have h2 := brun_xor (bits c) r 0#32
  rw [BitVec.xor_zero] at h2
  rw [h2, st8_xor, h]
  rfl
theorem run_bits : ∀ (l : List (BitVec 8)) (r : BitVec 32), run r l = brun r (l.flatMap bits)
  | [], _ => rfl
  | c :: l, r => by
    rw [run_cons, List.flatMap_cons, byte_bits, run_bits l]
    simp [brun]
/-- No bit set: steps alone. -/
theorem brun_none : ∀ (l : List Bool) (r : BitVec 32), (∀ b ∈ l, b = false) → brun r l = stpn l.length r
  | [], _, _ => rfl
  | b :: l, r, h => by
    have hb : b = false := h b (by simp)
    subst hb
    show brun (bit1 r false) l = stpn l.length (stp r)
    rw [brun_none l _ (fun x hx => h x (by simp [hx]))]
    simp [bit1]
/-- At most 32 bits as one word, the first one highest. -/
def word : List Bool → BitVec 32
  | [] => 0#32
  | b :: l => (if b then msk else 0#32) ^^^ (word l >>> 1)
theorem word_low : ∀ (l : List Bool) (j : Nat), j + l.length < 32 → (word l).getLsbD j = false
  | [], j, _ => by simp [word]
  | b :: l, j, h => by
    have hl : (b :: l).length = l.length + 1 := rfl
    have h1 := word_low l (j + 1) (by omega)
    have h2 : msk.getLsbD j = false := by
      have : ∀ i : Fin 31, msk.getLsbD i.val = false := by decide
      exact this ⟨j, by omega⟩
    unfold word
    rw [BitVec.getLsbD_xor, BitVec.getLsbD_ushiftRight, Nat.add_comm 1 j, h1]
    cases b
    · simp
    · simp [h2]
theorem stp_half {x : BitVec 32} (h : x.getLsbD 0 = false) : stp (x >>> 1) = x := by
  have hm : (x >>> 1).msb = false := by rw [BitVec.msb_ushiftRight]; simp
  unfold stp
  rw [hm]
  simp only [Bool.false_eq_true, if_false, BitVec.xor_zero]
  apply BitVec.eq_of_getLsbD_eq
  intro i hi
  rw [BitVec.getLsbD_shiftLeft]
  by_cases e : i = 0
  · subst e; rw [h]; simp
  · rw [BitVec.getLsbD_ushiftRight]
    have : 1 + (i - 1) = i := by omega
    rw [this]
    simp [hi]
    intro h0
    omega
theorem brun_word : ∀ (l : List Bool) (r : BitVec 32), l.length ≤ 32 → brun r l = stpn l.length (r ^^^ word l)
  | [], r, _ => by simp [brun, stpn, word]
  | b :: l, r, h => by
    have hl : (b :: l).length = l.length + 1 := rfl
    show brun (bit1 r b) l = stpn l.length (stp (r ^^^ ((if b then msk else 0#32) ^^^ (word l >>> 1))))
    rw [brun_word l _ (by omega)]
    congr 1
    rw [← BitVec.xor_assoc, stp_xor, stp_half (word_low l 0 (by omega))]
    rfl
theorem word_zero : ∀ (l : List Bool), l.length ≤ 32 → word l = 0#32 → ∀ b ∈ l, b = false
  | [], _, _ => by simp
  | b :: l, h, e => by
    have hl : (b :: l).length = l.length + 1 := rfl
    have hlow := word_low l 0 (by omega)
    have hb : b = false := by
      have := congrArg (fun w : BitVec 32 => w.getLsbD 31) e
      unfold word at this
      simp only [BitVec.getLsbD_xor, BitVec.getLsbD_ushiftRight, BitVec.getLsbD_zero] at this
      have h2 : (word l).getLsbD (1 + 31) = false := BitVec.getLsbD_of_ge _ _ (by omega)
      rw [h2] at this
      cases b
      · rfl
      · simp [msk] at this
    subst hb
    have hw : word l = 0#32 := by
      unfold word at e
      simp only [Bool.false_eq_true, if_false, BitVec.zero_xor] at e
      have := stp_half hlow
      rw [e, stp_zero] at this
      exact this.symm
    intro b hb
    rcases List.mem_cons.1 hb with rfl | hb
    · rfl
    · exact word_zero l (by omega) hw b hb
/-- A row of which only bits of a window of 32 are set, and one is: the register is not 0 behind it. -/
theorem burst (l : List Bool) (at_ : Nat) (h : ∀ i, (i < at_ ∨ at_ + 32 ≤ i) → l.getD i false = false) (e : brun 0#32 l = 0#32) : ∀ b ∈ l, b = false := by
  have hsplit : l = l.take at_ ++ ((l.drop at_).take 32 ++ (l.drop at_).drop 32) := by rw [List.take_append_drop, List.take_append_drop]
  have h1 : ∀ b ∈ l.take at_, b = false := by
    intro b hb
    obtain ⟨i, hi⟩ := List.mem_iff_getElem?.1 hb
    have hlt := (List.getElem?_eq_some_iff.1 hi).1
    rw [List.length_take] at hlt
    rw [List.getElem?_take_of_lt (by omega)] at hi
    have := h i (by omega)
    rw [List.getD_eq_getElem?_getD, hi] at this
    exact this
  have h3 : ∀ b ∈ (l.drop at_).drop 32, b = false := by
    intro b hb
    obtain ⟨i, hi⟩ := List.mem_iff_getElem?.1 hb
    rw [List.getElem?_drop, List.getElem?_drop] at hi
    have := h (at_ + (32 + i)) (by omega)
    rw [List.getD_eq_getElem?_getD, hi] at this
    exact this
  have e2 : brun 0#32 l = stpn ((l.drop at_).drop 32).length (brun 0#32 ((l.drop at_).take 32)) := by
    conv => lhs; rw [hsplit]
    show List.foldl _ _ _ = _
    rw [List.foldl_append, List.foldl_append]
    show brun (brun (brun 0#32 (l.take at_)) ((l.drop at_).take 32)) ((l.drop at_).drop 32) = _
    rw [brun_none _ _ h3, brun_none _ _ h1, stpn_zero]
  have hlen : ((l.drop at_).take 32).length ≤ 32 := by rw [List.length_take]; omega
  have h2 : ∀ b ∈ (l.drop at_).take 32, b = false := by
    refine word_zero _ hlen ?_
    have := stpn_inj _ (e2.symm.trans e)
    rw [brun_word _ _ hlen, BitVec.zero_xor] at this
    exact stpn_inj _ this
  intro b hb
  rw [hsplit] at hb
  rcases List.mem_append.1 hb with hb | hb
  · exact h1 b hb
  · rcases List.mem_append.1 hb with hb | hb
    · exact h2 b hb
    · exact h3 b hb
/-- A register's bytes, the highest first. -/
def bytes (r : BitVec 32) : List (BitVec 8) := [(r >>> 24).truncate 8, (r >>> 16).truncate 8, (r >>> 8).truncate 8, r.truncate 8]
/-- A row's bit at a place, the highest bit of a byte first. -/
def bitAt (l : List (BitVec 8)) (i : Nat) : Bool := (l.flatMap bits).getD i false
theorem flat_length (l : List (BitVec 8)) : (l.flatMap bits).length = 8 * l.length := by
  induction l with
  | nil => rfl
  | cons c l ih => rw [List.flatMap_cons, List.length_append, ih]; simp [bits]; omega
theorem mix_bits : ∀ (l m : List (BitVec 8)), l.length = m.length → (mix l m).flatMap bits = List.zipWith xor (l.flatMap bits) (m.flatMap bits)
  | [], [], _ => rfl
  | c :: l, d :: m, h => by
    show bits (c ^^^ d) ++ (mix l m).flatMap bits = List.zipWith xor (bits c ++ l.flatMap bits) (bits d ++ m.flatMap bits)
    rw [List.zipWith_append (by simp [bits]), mix_bits l m (by simpa using h)]
    congr 1
    simp [bits]
theorem bitAt_mix {l m : List (BitVec 8)} (h : l.length = m.length) (i : Nat) : bitAt (mix l m) i = xor (bitAt l i) (bitAt m i) := by
  unfold bitAt
  rw [mix_bits l m h, List.getD_eq_getElem?_getD, List.getD_eq_getElem?_getD, List.getD_eq_getElem?_getD, List.getElem?_zipWith]
  have e : (l.flatMap bits).length = (m.flatMap bits).length := by rw [flat_length, flat_length, h]
  by_cases hi : i < (l.flatMap bits).length
  · rw [List.getElem?_eq_getElem hi, List.getElem?_eq_getElem (by omega)]; rfl
  · rw [List.getElem?_eq_none (by omega), List.getElem?_eq_none (by omega)]; rfl
theorem bits_zero {c : BitVec 8} (h : ∀ b ∈ bits c, b = false) : c = 0#8 := by
  have : ∀ c : Fin 256, (∀ b ∈ bits (BitVec.ofFin c), b = false) → BitVec.ofFin c = 0#8 := by decide +kernel
  exact this c.toFin h
theorem mix_same : ∀ (l m : List (BitVec 8)), l.length = m.length → (∀ b ∈ (mix l m).flatMap bits, b = false) → l = m
  | [], [], _, _ => rfl
  | c :: l, d :: m, h, hb => by
    have h1 : c ^^^ d = 0#8 := bits_zero (fun b hb' => hb b (by
      show b ∈ bits (c ^^^ d) ++ (mix l m).flatMap bits
      exact List.mem_append_left _ hb'))
    have h2 := mix_same l m (by simpa using h) (fun b hb' => hb b (by
      show b ∈ bits (c ^^^ d) ++ (mix l m).flatMap bits
      exact List.mem_append_right _ hb'))
    rw [h2, BitVec.xor_eq_zero_iff.1 h1]
/-- Rows of one length, unlike only within a window of 32 bits: their difference leaves a register of 0 only where they are alike. -/
theorem burst_mix {l m : List (BitVec 8)} {at_ : Nat} (hl : l.length = m.length) (h : ∀ i, (i < at_ ∨ at_ + 32 ≤ i) → bitAt l i = bitAt m i) (e : run 0#32 (mix l m) = 0#32) : l = m := by
  refine mix_same l m hl (burst _ at_ (fun i hi => ?_) (by rw [← run_bits]; exact e))
  have := bitAt_mix hl i
  rw [h i hi] at this
  simpa [bitAt] using this
theorem burst_sums {l m : List (BitVec 8)} {at_ : Nat} (hl : l.length = m.length) (h : ∀ i, (i < at_ ∨ at_ + 32 ≤ i) → bitAt l i = bitAt m i) (s : BitVec 32) (e : more s l = more s m) : l = m := by
  refine burst_mix hl h ?_
  have h1 := run_mix l m (~~~ s) (~~~ s) hl
  rw [BitVec.xor_self] at h1
  rw [h1]
  unfold more at e
  have : run (~~~ s) l = run (~~~ s) m := by
    have := congrArg (fun x => ~~~ x) e
    simpa using this
  rw [this, BitVec.xor_self]
/-- Behind a register's own bytes the register is 0. -/
theorem run_bytes (r : BitVec 32) : run r (bytes r) = 0#32 := by
  have lin : ∀ x y : BitVec 32, run (x ^^^ y) (bytes (x ^^^ y)) = run x (bytes x) ^^^ run y (bytes y) := by
    intro x y
    have e : bytes (x ^^^ y) = mix (bytes x) (bytes y) := by
      simp [bytes, mix, BitVec.ushiftRight_xor_distrib]
    rw [e]
    exact run_mix _ _ _ _ rfl
  have one : ∀ i : Fin 32, run (BitVec.twoPow 32 i.val) (bytes (BitVec.twoPow 32 i.val)) = 0#32 := by decide +kernel
  have zero : run 0#32 (bytes 0#32) = 0#32 := by decide +kernel
  -- the bits below k
  have low : ∀ k : Nat, k ≤ 32 → run (r &&& (BitVec.ofNat 32 (2 ^ k - 1))) (bytes (r &&& (BitVec.ofNat 32 (2 ^ k - 1)))) = 0#32 := by
    intro k
    induction k with
    | zero => intro _; simpa using zero
    | succ k ih =>
      intro hk
      have e : r &&& BitVec.ofNat 32 (2 ^ (k + 1) - 1) = (r &&& BitVec.ofNat 32 (2 ^ k - 1)) ^^^ (if r.getLsbD k then BitVec.twoPow 32 k else 0#32) := by
        apply BitVec.eq_of_getLsbD_eq
        intro i hi
        rw [BitVec.getLsbD_and, BitVec.getLsbD_xor, BitVec.getLsbD_and, BitVec.getLsbD_ofNat, BitVec.getLsbD_ofNat, Nat.testBit_two_pow_sub_one, Nat.testBit_two_pow_sub_one]
        by_cases e1 : i = k
        · subst e1
          cases hr : r.getLsbD i <;> simp [BitVec.getLsbD_twoPow, hi]
        · have e2 : (if r.getLsbD k then BitVec.twoPow 32 k else 0#32).getLsbD i = false := by
            split
            · rw [BitVec.getLsbD_twoPow]; simp; omega
            · simp
          rw [e2]
          have e3 : decide (i < k + 1) = decide (i < k) := by rw [decide_eq_decide]; omega
          rw [e3]; simp
      rw [e, lin, ih (by omega), BitVec.zero_xor]
      split
      · exact one ⟨k, by omega⟩
      · exact zero
  have := low 32 (Nat.le_refl _)
  have e : r &&& BitVec.ofNat 32 (2 ^ 32 - 1) = r := by
    have : (BitVec.ofNat 32 (2 ^ 32 - 1)) = BitVec.allOnes 32 := by decide
    rw [this]; exact BitVec.and_allOnes
  rwa [e] at this
/-- Sealed bytes that were turned within a window of 32 bits are not sealed. -/
theorem burst_sealed {b d : List (BitVec 8)} {at_ : Nat} (hl : b.length = d.length) (h : ∀ i, (i < at_ ∨ at_ + 32 ≤ i) → bitAt (b ++ bytes (more 0#32 b)) i = bitAt (d ++ bytes (more 0#32 d)) i) :
    b ++ bytes (more 0#32 b) = d ++ bytes (more 0#32 d) := by
  refine burst_mix (at_ := at_) (by simp [hl, bytes]) h ?_
  have e1 : mix (b ++ bytes (more 0#32 b)) (d ++ bytes (more 0#32 d)) = mix b d ++ mix (bytes (more 0#32 b)) (bytes (more 0#32 d)) := List.zipWith_append hl
  have e2 : mix (bytes (more 0#32 b)) (bytes (more 0#32 d)) = bytes (more 0#32 b ^^^ more 0#32 d) := by
    simp [bytes, mix, BitVec.ushiftRight_xor_distrib]
  have e3 : more 0#32 b ^^^ more 0#32 d = run 0#32 (mix b d) := by
    have := run_mix b d (~~~ 0#32) (~~~ 0#32) hl
    rw [BitVec.xor_self] at this
    rw [this]
    unfold more
    generalize run (~~~ 0#32) b = x
    generalize run (~~~ 0#32) d = y
    simp only [← BitVec.allOnes_xor]
    calc BitVec.allOnes 32 ^^^ x ^^^ (BitVec.allOnes 32 ^^^ y) = (BitVec.allOnes 32 ^^^ BitVec.allOnes 32) ^^^ (x ^^^ y) := by ac_rfl
      _ = x ^^^ y := by rw [BitVec.xor_self, BitVec.zero_xor]
  rw [e1, run_append, e2, e3]
  exact run_bytes _
end Go.Proofs.Ytblaoljlcdgemaa.Sum
