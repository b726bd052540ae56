/- The reader: what Take does where there is enough. -/
import Derived.Test.YthkagdbabkkomaaHRd
import Derived.Deep.RegionLaw
set_option linter.unusedVariables false
set_option linter.unusedSimpArgs false
namespace Go.Proofs.Ythkagdbabkkomaa.HRd
open Go.RowKit Go.Proofs.Ythkagdbabkkomaa.MWi Go.Proofs.YthkagdbabkkomaaW.PrintWords Go.Proofs.YthkagdbabkkomaaW.PrintLast Go.Proofs.YthkagdbabkkomaaW.PrintMore
theorem drew_below {B : Nat} {W w1 : World} (h : Below B W.drew w1) : Below B W w1 := (Below.refl B W).drew.trans h
theorem below_weaken' {base B : Nat} {w W w1 : World} (h : Below base w W) (hb : base ≤ B) (k : Below B W.drew w1) : Below base w w1 := h.trans ((drew_below k).mono hb)
theorem wi64 {x : Int} (h1 : -9223372036854775808 ≤ x) (h2 : x ≤ 9223372036854775807) : IntKind.i64.wrap x = x := by
  rw [IntKind.wrap_i64]; omega
set_option maxHeartbeats 4000000 in
theorem take_yes {base g : Nat} {A : Option Addr} {c : Nat} {l : List Int} {at_ : Int} (n : Int) (w : World) (h : Rd w base g (.slice A l.length c) l at_ false) (a0 : 0 ≤ at_) (a1 : at_ ≤ l.length) (hl : l.length ≤ 1000000) (h0 : 0 ≤ n) (hn : n ≤ (l.length : Int) - at_) :
    Calls Try.prog 31 #[.pointer (some ⟨g, 0, none⟩), .int .i64 n] w fun e w' => ∃ v, e = .returned v ∧ (Kd.int .u8).R 5 w' w.heap.size (fun _ => True) v ((l.take (at_ + n).toNat).drop at_.toNat) ∧ Below base w w' ∧ KeepBut w w' g none ∧ Rd w' base g (.slice A l.length c) l (at_ + n) false := by
  obtain ⟨hc0, hc1, hc2⟩ := h.cell
  have hf1 := blk_frozen h.1 1
  have hg : g < w.heap.size := blk_lt h.1
  have HH := Aside0.mk h
  have hcl : l.length ≤ c := (Kd.R_reads' h.2.1).2.1
  have hd : decide (n < 0) = false := decide_eq_false (by omega)
  have hd1 : decide ((l.length : Int) - at_ < n) = false := decide_eq_false (by omega)
  clear h
  have hw1 : wrap64 (at_ + n) = at_ + n := by unfold wrap64; omega
  obtain ⟨i0, hi0, hz0⟩ : ∃ i, Try.prog.info? 5 = some i ∧ i.size = 1 := by
    have := hinfo5
    obtain ⟨i, hi, hh⟩ := Option.map_eq_some_iff.1 this
    exact ⟨i, hi, by simp only [Prod.mk.injEq] at hh; exact hh.2.1⟩
  have hcut := cut_mid (P := Try.prog) 22 5 .i64 .i64 Try.underlying22 hi0 1 hz0 A l.length c at_ (at_ + n) a0 (by omega) (by omega) hcl
  go_enter Try.func31, Try.ntmps31
  go_wp2
  go_quiet (fail)
  go_wp2
  have HR := Aside0.mk (HH.out.put.1 (at_ + n))
  have HB := Aside0.mk (show Below base w ((w.drewN nq).setCell ⟨g, 1, none⟩ (.int .i64 (at_ + n))) from (pw_below_drewN (Below.refl _ _) nq).setCell HH.out.2.2 _)
  have HK := Aside0.mk ((KeepBut.of_below (pw_below_drewN (Below.refl _ _) nq) g none : KeepBut w (w.drewN nq) g none).set_ 1 (.int .i64 (at_ + n)))
  have HR1 : Aside0 (Rd ((w.drewN nq).setCell ⟨g, 1, none⟩ (.int .i64 (at_ + n))) base g (.slice A l.length c) l (at_ + n) false) := Aside0.mk (Rd.put (show Rd (w.drewN nq) base g (.slice A l.length c) l at_ false from ⟨HH.out.1, Kd.R_drewN HH.out.2.1 nq, HH.out.2.2⟩) |>.1 (at_ + n))
  generalize (w.drewN nq).setCell ⟨g, 1, none⟩ (.int .i64 (at_ + n)) = W at *
  clear hc0 hc1 hc2
  obtain ⟨hc0, hc1, hc2⟩ := HR1.out.cell
  have hs2 : at_ + n - n = at_ := by omega
  have hs3 : IntKind.i64.wrap at_ = at_ := wi64 (by omega) (by omega)
  have hs5 : 0 ≤ at_ + n := by omega
  have hs6 : at_ + n ≤ (c : Int) := by omega
  have hs7 : at_ ≤ max (at_ + n) 0 := by omega
  have hC := Aside0.mk (Kd.C_drew (Kd.C_mid (lo := at_.toNat) (hi := (at_ + n).toNat) (Kd.R_reads' HR1.out.2.1).2.2 (by omega) (by omega) hcl))
  have hlm : ((l.take (at_ + n).toNat).drop at_.toNat).length = (at_ + n).toNat - at_.toNat := by rw [List.length_drop, List.length_take]; omega
  rw [hlm] at hC
  have hC' : Aside0 ((Kd.int .u8).C W.drew (if c = at_.toNat then A else A.map (·.add at_.toNat)) ((at_ + n).toNat - at_.toNat) ((l.take (at_ + n).toNat).drop at_.toNat)) := ⟨by have e : at_.toNat * (Kd.int .u8).sz = at_.toNat := Nat.mul_one _; have := hC.out; rw [e] at this; exact this⟩
  go_region_law (refine Kd.R_append_rows_step (Kd.int .u8) (w0 := W.drew) W.heap.size ?aW (.const (.slice none 0 0)) (.tmp 54) 22 5 (.int .u8 0) 1 rfl Try.underlying22 hinfo5 rfl (by decide) (by omega) (.slice none 0 0) ([] : List Int) ((l.take (at_ + n).toNat).drop at_.toNat) _ _ _ (fun _ => True) (fun _ => False) rfl rfl ?aO ?aR (fun _ _ h => h) (fun _ h => h.elim) ?aF ?aB ?aS ?aL ?_; (case aW => first | rfl | decide | simp [Region.wanted]); (case aR => exact hC'.out); (case aB => exact Below.refl _ _); (case aF => exact (fun _ _ => trivial)); (case aO => exact (Kd.R_nil _ _ _ _ _)); (case aS => exact Nat.le_refl _); (case aL => simp only [List.length_nil]; omega); intro v w1 ho hb hg hat; rw [List.nil_append] at ho)
  all_goals go_wp2
  all_goals
    go_ret
    first
    | exact ⟨v, rfl, Kd.R_lower ho HK.out.1, below_weaken' HB.out (Nat.le_trans HR1.out.2.2 (Nat.le_of_lt (blk_lt HR1.out.1))) hb, HK.out.trans (KeepBut.of_below (drew_below hb) g none) (.inl rfl), ⟨(hb.block g (blk_lt HR1.out.1)).trans HR1.out.1, Kd.R_below HR1.out.2.1 (drew_below hb), HR1.out.2.2⟩⟩
    | (subst_vars; exact ⟨v, rfl, Kd.R_lower ho HK.out.1, below_weaken' HB.out (Nat.le_trans HR1.out.2.2 (Nat.le_of_lt (blk_lt HR1.out.1))) hb, HK.out.trans (KeepBut.of_below (drew_below hb) g none) (.inl rfl), ⟨(hb.block g (blk_lt HR1.out.1)).trans HR1.out.1, Kd.R_below HR1.out.2.1 (drew_below hb), HR1.out.2.2⟩⟩)
end Go.Proofs.Ythkagdbabkkomaa.HRd
