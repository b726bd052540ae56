/- Texts of this claim, laid together by a program (wip/e/merge2.py): HQf. -/
import Derived.Test.YtaaifdclojkdmaaGreatDoorZFz3
import Derived.Test.YtaaifdclojkdmaaGreatDoorZFz4
set_option linter.unusedVariables false
set_option linter.unusedSimpArgs false
set_option maxRecDepth 100000
namespace Go.Proofs.YtaaifdclojkdmaaGreatDoor.MFr
namespace Dq
open Go.RowKit Go.Proofs.YtaaifdclojkdmaaGreatDoorW.PrintWords Go.Proofs.YtaaifdclojkdmaaGreatDoorW.PrintLast Go.Proofs.YtaaifdclojkdmaaGreatDoorW.PrintMore Go.Proofs.YtaaifdclojkdmaaGreatDoor.Wire Go.Proofs.YtaaifdclojkdmaaGreatDoor.Evl
structure Ds (W : World) (base g : Nat) (A : Option Addr) (c : Nat) (l : List Int) (s : St) : Prop where
 rd : Rr W base g A c l s.at_ false s.e s.ea
 row : Kd.R (Kd.int .u8) 5 W base (fun k => k < g) (.slice A l.length c) l
 a0 : 0 ≤ s.at_
 a1 : s.at_ ≤ l.length
structure Da (w w' : World) (base g : Nat) (A : Option Addr) (c : Nat) (l : List Int) (s : St) : Prop where
 below : Below base w w'
 keep : KeepBut w w' g none
 ds : Ds w' base g A c l s
variable {base g : Nat} {A : Option Addr} {c : Nat} {l : List Int} {s s1 s2 : St}
theorem row_keep {w w1 : World} (H : Kd.R (Kd.int .u8) 5 w base (fun k => k < g) (.slice A l.length c) l) (k : KeepBut w w1 g none) : Kd.R (Kd.int .u8) 5 w1 base (fun k => k < g) (.slice A l.length c) l :=
 Kd.R_step H (fun q hq hlt => k.2 q hlt (by have : q < g := hq; omega) (by simp))
theorem Ds.more {w w1 : World} (H : Ds w base g A c l s) (k : Below w.heap.size w w1) : Ds w1 base g A c l s :=
 ⟨⟨(k.block g (blk_lt H.rd.1)).trans H.rd.1, H.rd.2⟩, Kd.R_below H.row k, H.a0, H.a1⟩
theorem Da.same {w : World} (H : Ds w base g A c l s) : Da w w base g A c l s := ⟨Below.refl _ _, KeepBut.refl _ _ _, H⟩
theorem Da.then_ {w w1 w2 : World} (H : Da w w1 base g A c l s1) (K : Da w1 w2 base g A c l s2) : Da w w2 base g A c l s2 := ⟨H.below.trans K.below, H.keep.trans K.keep (.inl rfl), K.ds⟩
theorem Da.more {w w1 w2 : World} (H : Da w w1 base g A c l s) (k : Below w1.heap.size w1 w2) : Da w w2 base g A c l s :=
 ⟨H.below.trans (k.mono (Nat.le_trans H.ds.rd.2 (Nat.le_of_lt (blk_lt H.ds.rd.1)))), H.keep.trans (KeepBut.of_below k g none) (.inl rfl), H.ds.more k⟩
theorem Da.drewN {w : World} (H : Ds w base g A c l s) (n : Nat) : Da w (w.drewN n) base g A c l s := (Da.same H).more (pw_below_drewN (Below.refl _ _) n)
theorem Ds.read {w w1 : World} {n : Int} (H : Ds w base g A c l s) (k : Aft w w1 base g A c l n false s.e s.ea) (n0 : 0 ≤ n) (n1 : n ≤ l.length) : Da w w1 base g A c l ⟨n, s.e, s.ea⟩ :=
 ⟨k.below, k.keep, ⟨k.rd, row_keep H.row k.keep, n0, n1⟩⟩
theorem Ds.cells {w : World} (H : Ds w base g A c l s) : w.cell? ⟨g, 0, none⟩ = some (.slice A l.length c) ∧ w.cell? ⟨g, 1, none⟩ = some (.int .i64 s.at_) ∧ w.cell? ⟨g, 3, none⟩ = some (.int .i64 s.e) :=
 ⟨(blk_cell H.rd.1 0).trans rfl, (blk_cell H.rd.1 1).trans rfl, (blk_cell H.rd.1 3).trans rfl⟩
theorem Ds.cell4 {w : World} (H : Ds w base g A c l s) : w.cell? ⟨g, 4, none⟩ = some (.int .i64 s.ea) := (blk_cell H.rd.1 4).trans rfl
theorem Ds.putE {w : World} (H : Ds w base g A c l s) (e : Int) : Da w (w.setCell ⟨g, 3, none⟩ (.int .i64 e)) base g A c l ⟨s.at_, e, s.ea⟩ :=
 ⟨(Below.refl _ _).setCell H.rd.2 _, (KeepBut.refl w g none).set_ 3 _, ⟨⟨by simpa using blk_set H.rd.1 3 (.int .i64 e), H.rd.2⟩, Kd.R_far H.row (fun k hk => Nat.ne_of_lt hk) _, H.a0, H.a1⟩⟩
theorem Ds.putA {w : World} (H : Ds w base g A c l s) (a : Int) : Da w (w.setCell ⟨g, 4, none⟩ (.int .i64 a)) base g A c l ⟨s.at_, s.e, a⟩ :=
 ⟨(Below.refl _ _).setCell H.rd.2 _, (KeepBut.refl w g none).set_ 4 _, ⟨⟨by simpa using blk_set H.rd.1 4 (.int .i64 a), H.rd.2⟩, Kd.R_far H.row (fun k hk => Nat.ne_of_lt hk) _, H.a0, H.a1⟩⟩
def beginS (l : List Int) (s : St) (n : Int) : St := if s.e = 0 then (if (l.length : Int) - s.at_ < n then ⟨s.at_, 2, s.at_⟩ else ⟨s.at_, 0, s.at_⟩) else s
def numS (l : List Int) (s : St) (w lo hi : Int) : St :=
 if (beginS l s w).e = 0 then (if lo ≤ numR (cut l s.at_ w) ∧ numR (cut l s.at_ w) ≤ hi then ⟨s.at_ + w, 0, s.at_⟩ else ⟨s.at_ + w, 6, s.at_⟩) else beginS l s w
def numN (l : List Int) (s : St) (w lo hi : Int) : Int := if (numS l s w lo hi).e = 0 then numR (cut l s.at_ w) else 0
def ofsS (l : List Int) (s : St) : St :=
 if (beginS l s 6).e = 0 then (if -1099511627776 ≤ offR (cut l s.at_ 6) ∧ offR (cut l s.at_ 6) ≤ 1099511627776 then ⟨s.at_ + 6, 0, s.at_⟩ else ⟨s.at_ + 6, 6, s.at_⟩) else beginS l s 6
def ofsN (l : List Int) (s : St) : Int := if (ofsS l s).e = 0 then offR (cut l s.at_ 6) else 0
theorem begin_yes {n : Int} (h : (beginS l s n).e = 0) : s.e = 0 ∧ n ≤ (l.length : Int) - s.at_ ∧ beginS l s n = ⟨s.at_, 0, s.at_⟩ := by
 unfold beginS at h ⊢
 split at h
 ·rename_i k
  split at h
  ·simp at h
  ·rename_i q
   rw [if_pos k, if_neg q]
   exact ⟨k, by omega, rfl⟩
 ·rename_i k
  exact absurd h k
theorem begin_walk (n : Int) (w : World) (H : Ds w base g A c l s) (hl : l.length ≤ 1000000) :
  Calls Tryz.prog 61 #[.pointer (some ⟨g, 0, none⟩), .int .i64 n] w fun ev w' => ev = .returned (.bool (decide ((beginS l s n).e = 0))) ∧ Da w w' base g A c l (beginS l s n) := by
 have ha0 := H.a0
 have ha1 := H.a1
 obtain ⟨sa, se, sea⟩ := s
 obtain ⟨c0, c1, c3⟩ := H.cells
 have c4 := H.cell4
 by_cases h0 : se = 0
 ·subst h0
  have hw : wrap64 ((l.length : Int) - sa) = (l.length : Int) - sa := by unfold wrap64; simp only at ha0 ha1; omega
  have F4 := blk_frozen H.rd.1 4
  have HA := Aside0.mk (H.putA sa)
  by_cases hn : (l.length : Int) - sa < n
  ·have hd : decide ((l.length : Int) - sa < n) = true := decide_eq_true hn
   have HS : Aside0 (beginS l ⟨sa, 0, sea⟩ n = ⟨sa, 2, sa⟩) := ⟨by unfold beginS; rw [if_pos rfl, if_pos hn]⟩
   rw [HS.out]
   clear H hn
   go_enter Tryz.func61, Tryz.ntmps61
   go_wp2
   clear c0 c1 c3 c4 F4
   generalize w.setCell ⟨g, 4, none⟩ (.int .i64 sa) = w1 at *
   obtain ⟨c0, c1, c3⟩ := HA.out.ds.cells
   go_quiet (fail)
   have HN := Aside0.mk (HA.out.then_ (Da.drewN HA.out.ds nq))
   generalize w1.drewN nq = w2 at *
   have c3 := HN.out.ds.cells.2.2
   have F3 := blk_frozen HN.out.ds.rd.1 3
   clear c0 c1
   go_wp2
   go_ret
   exact ⟨rfl, HN.out.then_ (HN.out.ds.putE 2)⟩
  ·have hd : decide ((l.length : Int) - sa < n) = false := decide_eq_false hn
   have HS : Aside0 (beginS l ⟨sa, 0, sea⟩ n = ⟨sa, 0, sa⟩) := ⟨by unfold beginS; rw [if_pos rfl, if_neg hn]⟩
   rw [HS.out]
   clear H hn
   go_enter Tryz.func61, Tryz.ntmps61
   go_wp2
   clear c0 c1 c3 c4 F4
   generalize w.setCell ⟨g, 4, none⟩ (.int .i64 sa) = w1 at *
   obtain ⟨c0, c1, c3⟩ := HA.out.ds.cells
   go_quiet (fail)
   have HN := Aside0.mk (HA.out.then_ (Da.drewN HA.out.ds nq))
   generalize w1.drewN nq = w2 at *
   go_wp2
   go_ret
   exact ⟨rfl, HN.out⟩
 ·have hb : (se == 0) = false := beq_eq_false_iff_ne.mpr h0
  have hn : (se != 0) = true := bne_iff_ne.mpr h0
  have HS : Aside0 (beginS l ⟨sa, se, sea⟩ n = ⟨sa, se, sea⟩) := ⟨if_neg h0⟩
  rw [HS.out, decide_eq_false h0]
  have HH := Aside0.mk H
  clear H h0
  go_enter Tryz.func61, Tryz.ntmps61
  go_wp2
  go_ret
  exact ⟨rfl, Da.same HH.out⟩
theorem rwithin_is (n lo hi : Int) : drumlineref1_within.f n lo hi = some (decide (lo ≤ n ∧ n ≤ hi)) := by
 unfold drumlineref1_within.f
 by_cases h1 : n ≥ lo
 ·rw [if_pos h1]; simp [show lo ≤ n from h1]
 ·rw [if_neg h1]; simp [show ¬ lo ≤ n from h1]
theorem time_is (n : Int) : drumlineref1_Time.f n = some (decide (-1099511627776 ≤ n ∧ n ≤ 1099511627776)) := by
 unfold drumlineref1_Time.f
 by_cases h1 : n ≥ -1099511627776
 ·rw [if_pos h1]; simp [show -1099511627776 ≤ n from h1]
 ·rw [if_neg h1]; simp [show ¬ -1099511627776 ≤ n from h1]
theorem numF (n : Int) (w : World) (H : Ds w base g A c l s) (hl : l.length ≤ 1000000) (hb : Bys l) (n1 : 1 ≤ n) (n7 : n ≤ 7) (hn : n ≤ (l.length : Int) - s.at_) :
  Calls Tryz.prog 62 #[.pointer (some ⟨g, 0, none⟩), .int .i64 n] w fun ev w' => ev = .returned (.int .i64 (numR (cut l s.at_ n))) ∧ Da w w' base g A c l ⟨s.at_ + n, s.e, s.ea⟩ := by
 obtain ⟨k, hk⟩ := (rnum_evl (bys_cut (a := s.at_) (n := n) hb)).some_
 have a0 := H.a0
 have a1 := H.a1
 have hf := fd_cut l s.at_ n n1 n7 hn
 have h := rnumber_walk k n (numR (cut l s.at_ n)) w H.rd (Kd.R_reads' H.row).2.2 (Kd.R_reads' H.row).2.1 H.a0 H.a1 hl (by rw [hf]; exact hk)
 rw [hf] at h
 refine h.mono ?_
 rintro ev w' ⟨rfl, hA⟩
 exact ⟨rfl, H.read hA (by show 0 ≤ s.at_ + n; omega) (by show s.at_ + n ≤ l.length; omega)⟩
theorem ofsF (w : World) (H : Ds w base g A c l s) (hl : l.length ≤ 1000000) (hb : Bys l) (hn : 6 ≤ (l.length : Int) - s.at_) :
  Calls Tryz.prog 64 #[.pointer (some ⟨g, 0, none⟩), .int .i64 6] w fun ev w' => ev = .returned (.int .i64 (offR (cut l s.at_ 6))) ∧ Da w w' base g A c l ⟨s.at_ + 6, s.e, s.ea⟩ := by
 obtain ⟨k, hk⟩ := (roff_evl (bys_cut (a := s.at_) (n := 6) hb)).some_
 have a0 := H.a0
 have a1 := H.a1
 have hf := fd_cut l s.at_ 6 (by decide) (by decide) hn
 have h := roffset_walk k 6 (offR (cut l s.at_ 6)) w H.rd (Kd.R_reads' H.row).2.2 (Kd.R_reads' H.row).2.1 H.a0 H.a1 hl (by rw [hf]; exact hk)
 rw [hf] at h
 refine h.mono ?_
 rintro ev w' ⟨rfl, hA⟩
 exact ⟨rfl, H.read hA (by show 0 ≤ s.at_ + 6; omega) (by show s.at_ + 6 ≤ l.length; omega)⟩
set_option maxHeartbeats 1000000 in
theorem number_walk (n lo hi : Int) (w : World) (H : Ds w base g A c l s) (hl : l.length ≤ 1000000) (hb : Bys l) (n1 : 1 ≤ n) (n7 : n ≤ 7) :
  Calls Tryz.prog 37 #[.pointer (some ⟨g, 0, none⟩), .int .i64 n, .int .i64 lo, .int .i64 hi] w fun ev w' => ev = .returned (.int .i64 (numN l s n lo hi)) ∧ Da w w' base g A c l (numS l s n lo hi) := by
 have HH := Aside0.mk H
 have HB := Aside0.mk hb
 have HE := begin_walk n w H hl
 by_cases he : (beginS l s n).e = 0
 ·obtain ⟨hs0, hsn, hes⟩ := begin_yes he
  rw [decide_eq_true he, hes] at HE
  have HX := Aside0.mk HE
  have HS := Aside0.mk hsn
  clear H hb HE
  by_cases hr : lo ≤ numR (cut l s.at_ n) ∧ numR (cut l s.at_ n) ≤ hi
  ·have HT : Aside0 (numS l s n lo hi = ⟨s.at_ + n, 0, s.at_⟩) := ⟨by unfold numS; rw [if_pos he, if_pos hr]⟩
   have HV : Aside0 (numN l s n lo hi = numR (cut l s.at_ n)) := ⟨by unfold numN; rw [HT.out, if_pos rfl]⟩
   rw [HT.out, HV.out]
   have HW := Aside0.mk (rwithin_is (numR (cut l s.at_ n)) lo hi)
   rw [decide_eq_true hr] at HW
   clear he hs0 hsn hes hr HT HV
   go_enter Tryz.func37, Tryz.ntmps37
   go_wp2_with fail
   refine HX.out.mono ?_
   rintro e w1 ⟨rfl, hF⟩
   have H1 := Aside0.mk hF
   clear hF
   go_wp2_with fail
   refine (numF n _ H1.out.ds hl HB.out n1 n7 HS.out).mono ?_
   rintro e w2 ⟨rfl, hF⟩
   have H2 := Aside0.mk (H1.out.then_ hF)
   clear hF
   obtain ⟨r, hr⟩ : ∃ r, numR (cut l s.at_ n) = r := ⟨_, rfl⟩
   rw [hr] at HW ⊢
   go_wp2_with fail
   refine (drumlineref1_within.calls _ _ _ true _ HW.out).mono ?_
   rintro e w3 ⟨rfl, hD⟩
   have H3 := Aside0.mk (H2.out.more hD.below)
   clear hD
   go_wp2_with fail
   go_ret
   subst hr
   exact ⟨rfl, H3.out⟩
  ·have HT : Aside0 (numS l s n lo hi = ⟨s.at_ + n, 6, s.at_⟩) := ⟨by unfold numS; rw [if_pos he, if_neg hr]⟩
   have HV : Aside0 (numN l s n lo hi = 0) := ⟨by unfold numN; rw [HT.out]; rfl⟩
   rw [HT.out, HV.out]
   have HW := Aside0.mk (rwithin_is (numR (cut l s.at_ n)) lo hi)
   rw [decide_eq_false hr] at HW
   clear he hs0 hsn hes hr HT HV
   go_enter Tryz.func37, Tryz.ntmps37
   go_wp2_with fail
   refine HX.out.mono ?_
   rintro e w1 ⟨rfl, hF⟩
   have H1 := Aside0.mk hF
   clear hF
   go_wp2_with fail
   refine (numF n _ H1.out.ds hl HB.out n1 n7 HS.out).mono ?_
   rintro e w2 ⟨rfl, hF⟩
   have H2 := Aside0.mk (H1.out.then_ hF)
   clear hF
   obtain ⟨r, hr⟩ : ∃ r, numR (cut l s.at_ n) = r := ⟨_, rfl⟩
   rw [hr] at HW ⊢
   go_wp2_with fail
   refine (drumlineref1_within.calls _ _ _ false _ HW.out).mono ?_
   rintro e w3 ⟨rfl, hD⟩
   have H3 := Aside0.mk (H2.out.more hD.below)
   clear hD
   have c3 := H3.out.ds.cells.2.2
   have F3 := blk_frozen H3.out.ds.rd.1 3
   go_wp2_with fail
   go_ret
   exact ⟨rfl, H3.out.then_ (H3.out.ds.putE 6)⟩
 ·rw [decide_eq_false he] at HE
  have HX := Aside0.mk HE
  have HT : Aside0 (numS l s n lo hi = beginS l s n) := ⟨if_neg he⟩
  have HV : Aside0 (numN l s n lo hi = 0) := ⟨by unfold numN; rw [HT.out, if_neg he]⟩
  rw [HT.out, HV.out]
  clear H hb HE he
  go_enter Tryz.func37, Tryz.ntmps37
  go_wp2_with fail
  refine HX.out.mono ?_
  rintro e w1 ⟨rfl, hF⟩
  have H1 := Aside0.mk hF
  clear hF
  go_wp2_with fail
  go_ret
  exact ⟨rfl, H1.out⟩
set_option maxHeartbeats 1000000 in
theorem offset_walk (w : World) (H : Ds w base g A c l s) (hl : l.length ≤ 1000000) (hb : Bys l) :
  Calls Tryz.prog 39 #[.pointer (some ⟨g, 0, none⟩)] w fun ev w' => ev = .returned (.int .i64 (ofsN l s)) ∧ Da w w' base g A c l (ofsS l s) := by
 have HH := Aside0.mk H
 have HB := Aside0.mk hb
 have HE := begin_walk 6 w H hl
 by_cases he : (beginS l s 6).e = 0
 ·obtain ⟨hs0, hsn, hes⟩ := begin_yes he
  rw [decide_eq_true he, hes] at HE
  have HX := Aside0.mk HE
  have HS := Aside0.mk hsn
  clear H hb HE
  by_cases hr : (-1099511627776) ≤ offR (cut l s.at_ 6) ∧ offR (cut l s.at_ 6) ≤ 1099511627776
  ·have HT : Aside0 (ofsS l s = ⟨s.at_ + 6, 0, s.at_⟩) := ⟨by unfold ofsS; rw [if_pos he, if_pos hr]⟩
   have HV : Aside0 (ofsN l s = offR (cut l s.at_ 6)) := ⟨by unfold ofsN; rw [HT.out, if_pos rfl]⟩
   rw [HT.out, HV.out]
   have HW := Aside0.mk (time_is (offR (cut l s.at_ 6)))
   rw [decide_eq_true hr] at HW
   clear he hs0 hsn hes hr HT HV
   go_enter Tryz.func39, Tryz.ntmps39
   go_wp2_with fail
   refine HX.out.mono ?_
   rintro e w1 ⟨rfl, hF⟩
   have H1 := Aside0.mk hF
   clear hF
   go_wp2_with fail
   refine (ofsF _ H1.out.ds hl HB.out HS.out).mono ?_
   rintro e w2 ⟨rfl, hF⟩
   have H2 := Aside0.mk (H1.out.then_ hF)
   clear hF
   obtain ⟨r, hr⟩ : ∃ r, offR (cut l s.at_ 6) = r := ⟨_, rfl⟩
   rw [hr] at HW ⊢
   go_wp2_with fail
   refine (drumlineref1_Time.calls _ true _ HW.out).mono ?_
   rintro e w3 ⟨rfl, hD⟩
   have H3 := Aside0.mk (H2.out.more hD.below)
   clear hD
   go_wp2_with fail
   go_ret
   subst hr
   exact ⟨rfl, H3.out⟩
  ·have HT : Aside0 (ofsS l s = ⟨s.at_ + 6, 6, s.at_⟩) := ⟨by unfold ofsS; rw [if_pos he, if_neg hr]⟩
   have HV : Aside0 (ofsN l s = 0) := ⟨by unfold ofsN; rw [HT.out]; rfl⟩
   rw [HT.out, HV.out]
   have HW := Aside0.mk (time_is (offR (cut l s.at_ 6)))
   rw [decide_eq_false hr] at HW
   clear he hs0 hsn hes hr HT HV
   go_enter Tryz.func39, Tryz.ntmps39
   go_wp2_with fail
   refine HX.out.mono ?_
   rintro e w1 ⟨rfl, hF⟩
   have H1 := Aside0.mk hF
   clear hF
   go_wp2_with fail
   refine (ofsF _ H1.out.ds hl HB.out HS.out).mono ?_
   rintro e w2 ⟨rfl, hF⟩
   have H2 := Aside0.mk (H1.out.then_ hF)
   clear hF
   obtain ⟨r, hr⟩ : ∃ r, offR (cut l s.at_ 6) = r := ⟨_, rfl⟩
   rw [hr] at HW ⊢
   go_wp2_with fail
   refine (drumlineref1_Time.calls _ false _ HW.out).mono ?_
   rintro e w3 ⟨rfl, hD⟩
   have H3 := Aside0.mk (H2.out.more hD.below)
   clear hD
   have c3 := H3.out.ds.cells.2.2
   have F3 := blk_frozen H3.out.ds.rd.1 3
   go_wp2_with fail
   go_ret
   exact ⟨rfl, H3.out.then_ (H3.out.ds.putE 6)⟩
 ·rw [decide_eq_false he] at HE
  have HX := Aside0.mk HE
  have HT : Aside0 (ofsS l s = beginS l s 6) := ⟨if_neg he⟩
  have HV : Aside0 (ofsN l s = 0) := ⟨by unfold ofsN; rw [HT.out, if_neg he]⟩
  rw [HT.out, HV.out]
  clear H hb HE he
  go_enter Tryz.func39, Tryz.ntmps39
  go_wp2_with fail
  refine HX.out.mono ?_
  rintro e w1 ⟨rfl, hF⟩
  have H1 := Aside0.mk hF
  clear hF
  go_wp2_with fail
  go_ret
  exact ⟨rfl, H1.out⟩
theorem Da.grown {w W W1 : World} {row : Option Nat} (H : Da w W base g A c l s) (hg : W.grownBy W1 row) (hr : ∀ k, row = some k → w.heap.size ≤ k) (gw : g < w.heap.size) : Da w W1 base g A c l s := by
 have h2 := H.ds.rd.2
 have h4 := H.keep.1
 have kb : ∀ i, i < w.heap.size → W1.heap[i]? = W.heap[i]? := fun i hi => hg.block i (by omega) (fun e => by have := hr i e.symm; omega)
 exact ⟨H.below.grown hg (by omega) (fun k e => by have := hr k e; omega), ⟨Nat.le_trans h4 hg.size, fun i hi a b => (kb i hi).trans (H.keep.2 i hi a b)⟩, ⟨⟨(kb g gw).trans H.ds.rd.1, h2⟩, Kd.R_step H.ds.row (fun k hk hlt => by have : k < g := hk; exact kb k (by omega)), H.ds.a0, H.ds.a1⟩⟩
def agesQ (l : List Int) : Nat → St → List Int → List Int × St
 | 0, s, acc => (acc, s)
 | n + 1, s, acc => agesQ l n (numS l s 1 0 201) (acc ++ [numN l s 1 0 201])
def agesG (l : List Int) (s : St) : List Int × St := agesQ l (numN l s 1 1 6).toNat (numS l s 1 1 6) []
theorem numN_in (w lo hi : Int) : numN l s w lo hi = 0 ∨ lo ≤ numN l s w lo hi ∧ numN l s w lo hi ≤ hi := by
 unfold numN
 split
 ·rename_i h
  unfold numS at h
  split at h
  ·split at h
   ·rename_i k
    exact .inr k
   ·simp at h
  ·rename_i k
   exact absurd h k
 ·exact .inl rfl
set_option maxHeartbeats 4000000 in
theorem ages_walk (w : World) (H : Ds w base g A c l s) (hl : l.length ≤ 1000000) (hb : Bys l) :
  Calls Tryz.prog 38 #[.pointer (some ⟨g, 0, none⟩)] w fun ev w' => ∃ v, ev = .returned v ∧ (Kd.int .i64).R 3 w' w.heap.size (fun _ => True) v (agesG l s).1 ∧ Da w w' base g A c l (agesG l s).2 := by
 have HH := Aside0.mk H
 have HB := Aside0.mk hb
 have HP := Aside0.mk (numN_in (l := l) (s := s) 1 1 6)
 have HS := Aside0.mk (number_walk 1 1 6 w H hl hb (by decide) (by decide))
 have HZ : Aside0 (agesG l s = agesQ l (numN l s 1 1 6).toNat (numS l s 1 1 6) []) := ⟨rfl⟩
 have HGW := Aside0.mk (blk_lt H.rd.1)
 clear H hb
 generalize agesG l s = Z at *
 generalize numN l s 1 1 6 = n0 at *
 generalize numS l s 1 1 6 = s0 at *
 have hn0 : 0 ≤ n0 ∧ n0 ≤ 6 := by have := HP.out; omega
 have hcv : wrap64 n0 = n0 := by unfold wrap64; omega
 have HN := Aside0.mk hn0
 clear hn0
 go_enter Tryz.func38, Tryz.ntmps38
 go_wp2_with fail
 refine HS.out.mono ?_
 rintro e w1 ⟨rfl, hF⟩
 have H1 := Aside0.mk hF
 clear hF HS
 go_wp2_with fail
 go_loopg [3, 5] (n0.toNat + 1) (fun kq v3 v5 w' => ∃ (n : Nat) (i : Int) (acc : List Int) (s' : St) (vv : Value), vv = v3 ∧ v5 = .int .i64 i ∧ Aside0 (i + n = n0 ∧ 0 ≤ i ∧ kq = n + 1 ∧ acc.length + n = n0.toNat) ∧ Aside0 ((Kd.int .i64).R 3 w' w.heap.size (fun _ => True) v3 acc) ∧ Aside0 (Da w w' base g A c l s') ∧ Aside0 (Z = agesQ l n s' acc))
 case atStart => exact ⟨n0.toNat, 0, [], s0, _, rfl, rfl, ⟨by have := HN.out; omega, by decide, rfl, by simp⟩, ⟨Kd.R_nil _ _ _ _ _⟩, H1, HZ⟩
 case round =>
  clear H1 HZ
  obtain ⟨n, i, acc, s', vr3, rfl, rfl, HK, HR, HF, HZ⟩ := hrel
  cases n with
  | zero =>
   have hd : decide (i < n0) = false := decide_eq_false (by have := HK.out.1; omega)
   go_wp2_with fail
   go_ret
   rw [HZ.out]
   exact ⟨_, rfl, HR.out, HF.out⟩
  | succ n =>
   have hd : decide (i < n0) = true := decide_eq_true (by have := HK.out.1; omega)
   have HS := Aside0.mk (number_walk 1 0 201 wr HF.out.ds hl HB.out (by decide) (by decide))
   have HX : Aside0 (Z = agesQ l n (numS l s' 1 0 201) (acc ++ [numN l s' 1 0 201])) := ⟨HZ.out⟩
   have HQ := Aside0.mk (numN_in (l := l) (s := s') 1 0 201)
   clear HZ
   generalize numN l s' 1 0 201 = x at *
   have hcx : wrap64 x = x := by have := HQ.out; unfold wrap64; omega
   have hw : wrap64 (i + 1) = i + 1 := by have := HK.out; have := HN.out; unfold wrap64; omega
   cases gk with
   | zero => exact absurd HK.out (by omega)
   | succ k1 =>
   go_wp2_with fail
   refine HS.out.mono ?_
   rintro e w2 ⟨rfl, hF2⟩
   have HF2 := Aside0.mk hF2
   have HR2 : Aside0 ((Kd.int .i64).R 3 w2 w.heap.size (fun k => w.heap.size ≤ k) vr3 acc) := ⟨Kd.R_mono (Kd.R_step (Kd.R_bound HR.out) (fun k hk hlt => hF2.keep.2 k hlt (by have := HGW.out; have := hk.2.1; omega) (by simp))) (fun k hk => hk.2.1)⟩
   clear hF2 HS
   go_wp2_with (first | ((with_reducible refine gate_builtin (b := .append) (xs := #[.tmp 13, .tmp 16]) rfl ?_); at_builtin; refine Kd.R_append (Kd.int .i64) (w0 := w2) w.heap.size rfl (.tmp 13) (.tmp 16) 24 3 (.int .i64 0) 8 rfl Tryz.underlying24 hinfoI rfl (by decide) (by omega) vr3 acc x [.int .i64 x] (fun _ => True) (fun _ => False) rfl rfl ?aP (fun _ hk => hk.elim) (fun _ _ => trivial) ?aO (Below.refl _ _) ?aS ?aL ?_; (case aP => exact rfl); (case aO => exact Kd.R_mono HR2.out (fun _ _ => trivial)); (case aS => exact Nat.le_trans HF.out.keep.1 HF2.out.keep.1); (case aL => have := HK.out; have := HN.out; omega); intro v1 w3 ho hb hg hat; have HO := Aside0.mk ho; have HG := Aside0.mk hg; clear ho hb hg hat))
   have HF3 := Aside0.mk (Da.grown (HF.out.then_ HF2.out) HG.out (fun k e => HR2.out.1 k e) HGW.out)
   go_roundg k1
   case measure => have := HK.out; omega
   case rel => exact ⟨n, i + 1, acc ++ [x], _, _, rfl, (by first | rfl | rw [hw]), ⟨by have := HK.out; simp only [List.length_append, List.length_cons, List.length_nil]; omega⟩, HO, HF3, HX⟩
def bodyG (l : List Int) (s : St) : List Int × St :=
 if (beginS l (numS l s 1 0 24) (numN l s 1 0 24)).e = 0 then (cut l (numS l s 1 0 24).at_ (numN l s 1 0 24), ⟨(numS l s 1 0 24).at_ + numN l s 1 0 24, 0, (numS l s 1 0 24).at_⟩) else ([], beginS l (numS l s 1 0 24) (numN l s 1 0 24))
set_option maxHeartbeats 1000000 in
theorem body_walk (w : World) (H : Ds w base g A c l s) (hl : l.length ≤ 1000000) (hb : Bys l) :
  Calls Tryz.prog 40 #[.pointer (some ⟨g, 0, none⟩)] w fun ev w' => ∃ v, ev = .returned v ∧ (Kd.int .u8).R 5 w' w.heap.size (fun _ => True) v (bodyG l s).1 ∧ Da w w' base g A c l (bodyG l s).2 := by
 have hp1 := numN_in (l := l) (s := s) 1 0 24
 have HS := Aside0.mk (number_walk 1 0 24 w H hl hb (by decide) (by decide))
 have HGW := Aside0.mk (blk_lt H.rd.1)
 by_cases he : (beginS l (numS l s 1 0 24) (numN l s 1 0 24)).e = 0
 ·have HZ : Aside0 (bodyG l s = (cut l (numS l s 1 0 24).at_ (numN l s 1 0 24), ⟨(numS l s 1 0 24).at_ + numN l s 1 0 24, 0, (numS l s 1 0 24).at_⟩)) := ⟨if_pos he⟩
  rw [HZ.out]
  have hy := begin_yes he
  clear HZ H hb
  generalize numN l s 1 0 24 = n0 at *
  generalize numS l s 1 0 24 = s0 at *
  have HY := Aside0.mk hy
  have HP := Aside0.mk hp1
  have hcv : wrap64 n0 = n0 := by unfold wrap64; omega
  have HE := Aside0.mk he
  clear hy hp1 he
  go_enter Tryz.func40, Tryz.ntmps40
  go_wp2_with fail
  refine HS.out.mono ?_
  rintro e w1 ⟨rfl, hF⟩
  have H1 := Aside0.mk hF
  clear hF HS
  go_wp2_with fail
  have W2 := begin_walk n0 _ H1.out.ds hl
  rw [decide_eq_true HE.out, HY.out.2.2] at W2
  refine W2.mono ?_
  rintro e w2 ⟨rfl, hF⟩
  have H2 := Aside0.mk (H1.out.then_ hF)
  clear hF W2
  go_wp2_with fail
  refine (rtake_walk n0 _ H2.out.ds.rd (Kd.R_reads' H2.out.ds.row).2.2 (Kd.R_reads' H2.out.ds.row).2.1 H2.out.ds.a0 H2.out.ds.a1 hl).mono ?_
  rintro e w3 ⟨v, rfl, ho, hA⟩
  have hk : tk l s0.at_ false n0 = (cut l s0.at_ n0, s0.at_ + n0, false) := by
   unfold tk cut
   rw [if_neg (by simp; have := HY.out; have := HP.out; omega)]
  rw [show tk l (⟨s0.at_, 0, s0.at_⟩ : St).at_ false n0 = _ from hk] at ho hA
  have H3 := Aside0.mk (H2.out.then_ (H2.out.ds.read hA (by have := H1.out.ds.a0; have := HP.out; show 0 ≤ s0.at_ + n0; omega) (by have := HY.out; show s0.at_ + n0 ≤ l.length; omega)))
  have HO := Aside0.mk (Kd.R_lower ho H2.out.keep.1)
  clear ho hA
  go_wp2_with fail
  go_ret
  exact ⟨_, rfl, HO.out, H3.out⟩
 ·have HZ : Aside0 (bodyG l s = ([], beginS l (numS l s 1 0 24) (numN l s 1 0 24))) := ⟨if_neg he⟩
  rw [HZ.out]
  have hcv : wrap64 (numN l s 1 0 24) = numN l s 1 0 24 := by unfold wrap64; omega
  clear HZ H hb hp1
  generalize numN l s 1 0 24 = n0 at *
  generalize numS l s 1 0 24 = s0 at *
  have HE := Aside0.mk he
  clear he
  go_enter Tryz.func40, Tryz.ntmps40
  go_wp2_with fail
  refine HS.out.mono ?_
  rintro e w1 ⟨rfl, hF⟩
  have H1 := Aside0.mk hF
  clear hF HS
  go_wp2_with fail
  have W2 := begin_walk n0 _ H1.out.ds hl
  rw [decide_eq_false HE.out] at W2
  refine W2.mono ?_
  rintro e w2 ⟨rfl, hF⟩
  have H2 := Aside0.mk (H1.out.then_ hF)
  clear hF W2
  go_wp2_with fail
  go_ret
  exact ⟨_, rfl, Kd.R_nil _ _ _ _ _, H2.out⟩
end Dq
end Go.Proofs.YtaaifdclojkdmaaGreatDoor.MFr
