/- The document's reader: Take, wide, Number and Offset, whatever its state. -/
import Derived.Test.YthkagdbabkkomaaHRf
import Derived.Test.YthkagdbabkkomaaMWix14
import Derived.Test.YthkagdbabkkomaaMWix20
import Derived.Test.YthkagdbabkkomaaMWix23
import Derived.Deep.RegionLaw
set_option linter.unusedVariables false
set_option linter.unusedSimpArgs false
namespace Go.Proofs.Ythkagdbabkkomaa.HRd
open Go.RowKit Go.Proofs.Ythkagdbabkkomaa.MWi Go.Proofs.YthkagdbabkkomaaW.PrintWords Go.Proofs.YthkagdbabkkomaaW.PrintLast Go.Proofs.YthkagdbabkkomaaW.PrintMore
/-- The document's reader at block g, over bytes that came in. -/
def Rr (W : World) (base g : Nat) (A : Option Addr) (c : Nat) (l : List Int) (at_ : Int) (bad : Bool) : Prop :=
  W.heap[g]? = some (.cells #[.slice A l.length c, .int .i64 at_, .bool bad] 53 (0, 0)) ∧ base ≤ g
theorem Rr.cell {W : World} {base g : Nat} {A : Option Addr} {c : Nat} {l : List Int} {at_ : Int} {bad : Bool} (h : Rr W base g A c l at_ bad) :
    W.cell? ⟨g, 0, none⟩ = some (.slice A l.length c) ∧ W.cell? ⟨g, 1, none⟩ = some (.int .i64 at_) ∧ W.cell? ⟨g, 2, none⟩ = some (.bool bad) :=
  ⟨(blk_cell h.1 0).trans rfl, (blk_cell h.1 1).trans rfl, (blk_cell h.1 2).trans rfl⟩
theorem Rr.put {W : World} {base g : Nat} {A : Option Addr} {c : Nat} {l : List Int} {at_ : Int} {bad : Bool} (h : Rr W base g A c l at_ bad) :
    (∀ n : Int, Rr (W.setCell ⟨g, 1, none⟩ (.int .i64 n)) base g A c l n bad) ∧ (∀ b : Bool, Rr (W.setCell ⟨g, 2, none⟩ (.bool b)) base g A c l at_ b) :=
  ⟨fun n => ⟨by simpa using blk_set h.1 1 (.int .i64 n), h.2⟩, fun b => ⟨by simpa using blk_set h.1 2 (.bool b), h.2⟩⟩
structure Aft (w w' : World) (base g : Nat) (A : Option Addr) (c : Nat) (l : List Int) (at_ : Int) (bad : Bool) : Prop where
  below : Below base w w'
  keep : KeepBut w w' g none
  rd : Rr w' base g A c l at_ bad
variable {base g : Nat} {A : Option Addr} {c : Nat} {l : List Int} {at_ : Int} {bad : Bool}
theorem Aft.then_ {w w1 w2 : World} {at1 at2 : Int} {b1 b2 : Bool} (h : Aft w w1 base g A c l at1 b1) (k : Aft w1 w2 base g A c l at2 b2) : Aft w w2 base g A c l at2 b2 :=
  ⟨h.below.trans k.below, h.keep.trans k.keep (.inl rfl), k.rd⟩
theorem Aft.more {w w1 w2 : World} {at1 : Int} {b1 : Bool} (h : Aft w w1 base g A c l at1 b1) (k : Below w1.heap.size w1 w2) : Aft w w2 base g A c l at1 b1 :=
  ⟨h.below.trans (k.mono (Nat.le_trans h.rd.2 (Nat.le_of_lt (blk_lt h.rd.1)))), h.keep.trans (KeepBut.of_below k g none) (.inl rfl), ⟨(k.block g (blk_lt h.rd.1)).trans h.rd.1, h.rd.2⟩⟩
theorem Aft.same {w : World} {at1 : Int} {b1 : Bool} (h : Rr w base g A c l at1 b1) : Aft w w base g A c l at1 b1 := ⟨Below.refl _ _, KeepBut.refl _ _ _, h⟩
theorem Aft.set_bad {w : World} {at1 : Int} {b1 : Bool} (h : Rr w base g A c l at1 b1) (m : Nat) (b : Bool) : Aft w ((w.drewN m).setCell ⟨g, 2, none⟩ (.bool b)) base g A c l at1 b :=
  ⟨(pw_below_drewN (Below.refl _ _) m).setCell h.2 _, (KeepBut.of_below (pw_below_drewN (Below.refl _ _) m) g none : KeepBut w (w.drewN m) g none).set_ 2 (.bool b), (show Rr (w.drewN m) base g A c l at1 b1 from h).put.2 b⟩
theorem Aft.set_at {w w1 : World} {at1 : Int} {b1 : Bool} (h : Aft w w1 base g A c l at1 b1) (n : Int) : Aft w (w1.setCell ⟨g, 1, none⟩ (.int .i64 n)) base g A c l n b1 :=
  ⟨h.below.setCell h.rd.2 _, h.keep.set_ 1 (.int .i64 n), h.rd.put.1 n⟩
theorem Aft.drewN {w : World} {at1 : Int} {b1 : Bool} (h : Rr w base g A c l at1 b1) (m : Nat) : Aft w (w.drewN m) base g A c l at1 b1 := (Aft.same h).more (pw_below_drewN (Below.refl _ _) m)
set_option maxHeartbeats 1000000 in
theorem rtake_no (n : Int) (w : World) (h : Rr w base g A c l at_ bad) (a0 : 0 ≤ at_) (a1 : at_ ≤ l.length) (hl : l.length ≤ 1000000) (hn : bad = true ∨ n < 0 ∨ (l.length : Int) - at_ < n) :
    Calls Try.prog 39 #[.pointer (some ⟨g, 0, none⟩), .int .i64 n] w fun e w' => e = .returned (.slice none 0 0) ∧ ∃ m, w' = (w.drewN m).setCell ⟨g, 2, none⟩ (.bool true) := by
  obtain ⟨hc0, hc1, hc2⟩ := h.cell
  have hf2 := blk_frozen h.1 2
  clear h
  cases bad with
  | true =>
    clear hn
    go_enter Try.func39, Try.ntmps39
    go_wp2
    go_quiet (fail)
    go_wp2
    go_ret
    exact ⟨rfl, _, rfl⟩
  | false =>
    rcases Int.lt_or_le n 0 with hn0 | hn0
    · have hd : decide (n < 0) = true := decide_eq_true hn0
      clear hn
      go_enter Try.func39, Try.ntmps39
      go_wp2
      go_quiet (fail)
      go_wp2
      go_ret
      exact ⟨rfl, _, rfl⟩
    · have hd : decide (n < 0) = false := decide_eq_false (by omega)
      have hn1 : (l.length : Int) - at_ < n := by simp at hn; omega
      have hd1 : decide ((l.length : Int) - at_ < n) = true := decide_eq_true hn1
      clear hn
      go_enter Try.func39, Try.ntmps39
      go_wp2
      go_quiet (fail)
      go_wp2
      go_ret
      exact ⟨rfl, _, rfl⟩
set_option maxHeartbeats 4000000 in
theorem rtake_yes (n : Int) (w : World) (h : Rr w base g A c l at_ false) (hC : Kd.C (Kd.int .u8) w A l.length l) (hcl : l.length ≤ c) (a0 : 0 ≤ at_) (a1 : at_ ≤ l.length) (hl : l.length ≤ 1000000) (h0 : 0 ≤ n) (hn : n ≤ (l.length : Int) - at_) :
    Calls Try.prog 39 #[.pointer (some ⟨g, 0, none⟩), .int .i64 n] w fun e w' => ∃ v, e = .returned v ∧ (Kd.int .u8).R 5 w' w.heap.size (fun _ => True) v ((l.take (at_ + n).toNat).drop at_.toNat) ∧ Aft w w' base g A c l (at_ + n) false := by
  obtain ⟨hc0, hc1, hc2⟩ := h.cell
  have HH := Aside0.mk h
  have HCC := Aside0.mk hC
  have hd : decide (n < 0) = false := decide_eq_false (by omega)
  have hd1 : decide ((l.length : Int) - at_ < n) = false := decide_eq_false (by omega)
  clear h hC
  have hw1 : wrap64 (at_ + n) = at_ + n := by unfold wrap64; omega
  have hw2 : IntKind.i64.wrap (at_ + n) = at_ + n := wi64 (by omega) (by omega)
  have hs5 : 0 ≤ at_ + n := by omega
  have hs6 : at_ + n ≤ (c : Int) := by omega
  have hs7 : at_ ≤ max (at_ + n) 0 := by omega
  go_enter Try.func39, Try.ntmps39
  go_wp2
  go_quiet (fail)
  go_wp2
  have HR1 : Aside0 (Rr (w.drewN nq) base g A c l at_ false) := ⟨HH.out⟩
  have HA1 := Aside0.mk (Aft.drewN HH.out nq)
  have HC1 := Aside0.mk (Kd.C_drewN HCC.out nq)
  have hsz : Aside0 (w.heap.size ≤ (w.drewN nq).heap.size) := ⟨Nat.le_refl _⟩
  generalize w.drewN nq = W at *
  clear hc0 hc1 hc2
  obtain ⟨hc0, hc1, hc2⟩ := HR1.out.cell
  have hcp := Aside0.mk (Kd.C_drew (Kd.C_mid (lo := at_.toNat) (hi := (at_ + n).toNat) HC1.out (by omega) (by omega) hcl))
  have hlm : ((l.take (at_ + n).toNat).drop at_.toNat).length = (at_ + n).toNat - at_.toNat := by rw [List.length_drop, List.length_take]; omega
  have hC' : Kd.C (Kd.int .u8) W.drew (if c = at_.toNat then A else A.map (·.add at_.toNat)) ((l.take (at_ + n).toNat).drop at_.toNat).length ((l.take (at_ + n).toNat).drop at_.toNat) := by
    have e : at_.toNat * (Kd.int .u8).sz = at_.toNat := Nat.mul_one _
    have := hcp.out
    rw [e] at this
    exact this
  have HCp := drumlineref1_Copy.calls (if c = at_.toNat then A else A.map (·.add at_.toNat)) (c - at_.toNat) ((l.take (at_ + n).toNat).drop at_.toNat) ((l.take (at_ + n).toNat).drop at_.toNat) W.drew hC' (by rw [hlm]; omega) (by unfold drumlineref1_Copy.f; rw [if_pos (by rw [hlm]; simp only [List.length_nil]; omega)]; rfl)
  rw [hlm] at HCp
  have HP := Aside0.mk HCp
  clear HCp hC' hcp hlm
  go_region_law (refine goes_ Try.func50 (by kernel_rfl) rfl #[.slice (if c = at_.toNat then A else A.map (·.add at_.toNat)) ((at_ + n).toNat - at_.toNat) (c - at_.toNat)] (by first | rfl | decide | simp [Region.wanted]) rfl rfl (by simp only [List.map_toArray, List.map_cons, List.map_nil]; rfl) ?_; refine HP.out.mono ?_; rintro e w1 ⟨v, rfl, ho, hb⟩; have hb0 := Aside0.mk (drew_below hb); have ho0 := Aside0.mk ho; clear ho hb; have d1 := ((HA1.out.more hb0.out).rd.cell).2.1; have df := blk_frozen ((HA1.out.more hb0.out).rd).1 1; refine ⟨_, rfl, ?_⟩)
  all_goals go_wp2
  all_goals
    go_ret
    first
    | exact ⟨_, rfl, Kd.R_lower (Kd.R_mono (Kd.R_far (Kd.R_bound ho0.out) (fun k hk => by have h1 : W.heap.size ≤ k := hk.2.1; have h2 := blk_lt HR1.out.1; show k ≠ g; omega) _) (fun _ _ => trivial)) hsz.out, (HA1.out.more hb0.out).set_at (at_ + n)⟩
    | (subst_vars; exact ⟨_, rfl, Kd.R_lower (Kd.R_mono (Kd.R_far (Kd.R_bound ho0.out) (fun k hk => by have h1 : W.heap.size ≤ k := hk.2.1; have h2 := blk_lt HR1.out.1; show k ≠ g; omega) _) (fun _ _ => trivial)) hsz.out, (HA1.out.more hb0.out).set_at (at_ + n)⟩)
theorem rtake_walk (n : Int) (w : World) (h : Rr w base g A c l at_ bad) (hC : Kd.C (Kd.int .u8) w A l.length l) (hcl : l.length ≤ c) (a0 : 0 ≤ at_) (a1 : at_ ≤ l.length) (hl : l.length ≤ 1000000) :
    Calls Try.prog 39 #[.pointer (some ⟨g, 0, none⟩), .int .i64 n] w fun e w' => ∃ v, e = .returned v ∧ (Kd.int .u8).R 5 w' w.heap.size (fun _ => True) v (tk l at_ bad n).1 ∧ Aft w w' base g A c l (tk l at_ bad n).2.1 (tk l at_ bad n).2.2 := by
  unfold tk
  by_cases hn : bad = true ∨ n < 0 ∨ (l.length : Int) - at_ < n
  · rw [if_pos hn]
    refine (rtake_no n w h a0 a1 hl hn).mono ?_
    rintro e w' ⟨rfl, m, rfl⟩
    exact ⟨_, rfl, Kd.R_nil _ _ _ _ _, Aft.set_bad h m true⟩
  · rw [if_neg hn]
    simp only [not_or] at hn
    have hb : bad = false := by simpa using hn.1
    subst hb
    refine (rtake_yes n w h hC hcl a0 a1 hl (by omega) (by omega)).mono ?_
    rintro e w' ⟨v, rfl, h1, h2⟩
    exact ⟨v, rfl, h1, h2⟩
set_option maxHeartbeats 1000000 in
theorem rwide_walk (n : Int) (w : World) (h : Rr w base g A c l at_ bad) (hC : Kd.C (Kd.int .u8) w A l.length l) (hcl : l.length ≤ c) (a0 : 0 ≤ at_) (a1 : at_ ≤ l.length) (hl : l.length ≤ 1000000) :
    Calls Try.prog 51 #[.pointer (some ⟨g, 0, none⟩), .int .i64 n] w fun e w' => ∃ v, e = .returned v ∧ (Kd.int .u8).R 5 w' w.heap.size (fun _ => True) v (fd l at_ bad n).1 ∧ Aft w w' base g A c l (fd l at_ bad n).2.1 (fd l at_ bad n).2.2 := by
  have HH := Aside0.mk h
  have HCC := Aside0.mk hC
  have HCL := Aside0.mk hcl
  clear h hC hcl
  by_cases hn : 1 ≤ n ∧ n ≤ 7
  · rw [show fd l at_ bad n = tk l at_ bad n from if_pos hn]
    have d1 : decide (n < 1) = false := decide_eq_false (by omega)
    have d2 : decide (7 < n) = false := decide_eq_false (by omega)
    go_enter Try.func51, Try.ntmps51
    go_wp2_with fail
    refine (rtake_walk n _ HH.out HCC.out HCL.out a0 a1 hl).mono ?_
    rintro e w1 ⟨v, rfl, ho, hA⟩
    have HO := Aside0.mk ho
    have HA := Aside0.mk hA
    clear ho hA
    go_wp2_with fail
    go_ret
    exact ⟨_, rfl, HO.out, HA.out⟩
  · rw [show fd l at_ bad n = ([], at_, true) from if_neg hn]
    obtain ⟨hc0, hc1, hc2⟩ := HH.out.cell
    have hf2 := blk_frozen HH.out.1 2
    have HB := Aside0.mk (Aft.set_bad HH.out 0 true)
    have e0 : w.drewN 0 = w := rfl
    rw [e0] at HB
    by_cases h1 : n < 1
    · have d1 : decide (n < 1) = true := decide_eq_true h1
      clear hn
      go_enter Try.func51, Try.ntmps51
      go_wp2_with fail
      refine (rtake_no n _ HB.out.rd a0 a1 hl (.inl rfl)).mono ?_
      rintro e w1 ⟨rfl, m, rfl⟩
      go_wp2_with fail
      go_ret
      exact ⟨_, rfl, Kd.R_nil _ _ _ _ _, HB.out.then_ (Aft.set_bad HB.out.rd m true)⟩
    · have d1 : decide (n < 1) = false := decide_eq_false h1
      have d2 : decide (7 < n) = true := decide_eq_true (by omega)
      clear hn
      go_enter Try.func51, Try.ntmps51
      go_wp2_with fail
      refine (rtake_no n _ HB.out.rd a0 a1 hl (.inl rfl)).mono ?_
      rintro e w1 ⟨rfl, m, rfl⟩
      go_wp2_with fail
      go_ret
      exact ⟨_, rfl, Kd.R_nil _ _ _ _ _, HB.out.then_ (Aft.set_bad HB.out.rd m true)⟩
theorem rnumber_walk (k : Nat) (n r : Int) (w : World) (h : Rr w base g A c l at_ bad) (hC : Kd.C (Kd.int .u8) w A l.length l) (hcl : l.length ≤ c) (a0 : 0 ≤ at_) (a1 : at_ ≤ l.length) (hl : l.length ≤ 1000000) (hf : drumlineref1_Number.f k (fd l at_ bad n).1 = some r) :
    Calls Try.prog 40 #[.pointer (some ⟨g, 0, none⟩), .int .i64 n] w fun e w' => e = .returned (.int .i64 r) ∧ Aft w w' base g A c l (fd l at_ bad n).2.1 (fd l at_ bad n).2.2 := by
  have HH := Aside0.mk h
  have HCC := Aside0.mk hC
  have HCL := Aside0.mk hcl
  have HF := Aside0.mk hf
  clear h hf hC hcl
  go_enter Try.func40, Try.ntmps40
  go_wp2_with fail
  refine (rwide_walk n _ HH.out HCC.out HCL.out a0 a1 hl).mono ?_
  rintro e w1 ⟨v, rfl, ho, hA⟩
  obtain ⟨A1, c1, rfl⟩ := Kd.R_slice ho
  have HO := Aside0.mk ho
  have HA := Aside0.mk hA
  clear ho hA
  go_wp2_with fail
  refine (drumlineref1_Number.calls k _ _ _ r _ (Kd.R_reads' HO.out).2.2 (Kd.R_reads' HO.out).2.1 HF.out).mono ?_
  rintro e w2 ⟨rfl, hD⟩
  have HD := Aside0.mk hD
  clear hD
  go_wp2_with fail
  go_ret
  exact ⟨rfl, HA.out.more HD.out.below⟩
theorem roffset_walk (k : Nat) (n r : Int) (w : World) (h : Rr w base g A c l at_ bad) (hC : Kd.C (Kd.int .u8) w A l.length l) (hcl : l.length ≤ c) (a0 : 0 ≤ at_) (a1 : at_ ≤ l.length) (hl : l.length ≤ 1000000) (hf : drumlineref1_Offset.f k (fd l at_ bad n).1 = some r) :
    Calls Try.prog 42 #[.pointer (some ⟨g, 0, none⟩), .int .i64 n] w fun e w' => e = .returned (.int .i64 r) ∧ Aft w w' base g A c l (fd l at_ bad n).2.1 (fd l at_ bad n).2.2 := by
  have HH := Aside0.mk h
  have HCC := Aside0.mk hC
  have HCL := Aside0.mk hcl
  have HF := Aside0.mk hf
  clear h hf hC hcl
  go_enter Try.func42, Try.ntmps42
  go_wp2_with fail
  refine (rwide_walk n _ HH.out HCC.out HCL.out a0 a1 hl).mono ?_
  rintro e w1 ⟨v, rfl, ho, hA⟩
  obtain ⟨A1, c1, rfl⟩ := Kd.R_slice ho
  have HO := Aside0.mk ho
  have HA := Aside0.mk hA
  clear ho hA
  go_wp2_with fail
  refine (drumlineref1_Offset.calls k _ _ _ r _ (Kd.R_reads' HO.out).2.2 (Kd.R_reads' HO.out).2.1 HF.out).mono ?_
  rintro e w2 ⟨rfl, hD⟩
  have HD := Aside0.mk hD
  clear hD
  go_wp2_with fail
  go_ret
  exact ⟨rfl, HA.out.more HD.out.below⟩
end Go.Proofs.Ythkagdbabkkomaa.HRd
