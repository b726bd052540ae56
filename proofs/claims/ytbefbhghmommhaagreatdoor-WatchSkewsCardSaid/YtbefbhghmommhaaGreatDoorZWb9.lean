/- Texts of this claim, laid together by a program (wip/g/merge3.py): PuW, PuSk, MWox55, PuSm, MWox80, MWox65, MWox13, MWox14, Hr, MWox15, MWox16, MWox11, MWox4, Hb, Hc, Hd, Hk. -/
import Derived.Test.YtbefbhghmommhaaGreatDoorZWb6
import Derived.Test.YtbefbhghmommhaaGreatDoorZWb7
import Derived.Test.YtbefbhghmommhaaGreatDoorZWb3
import Derived.Deep.QuietTactic
set_option linter.unusedVariables false
set_option linter.unusedSimpArgs false
set_option maxRecDepth 100000
namespace Go.Proofs.YtbefbhghmommhaaGreatDoor.MWo
open Go.RowKit Go.Proofs.YtbefbhghmommhaaGreatDoorW.PrintWords Go.Proofs.YtbefbhghmommhaaGreatDoorW.PrintLast Go.Proofs.YtbefbhghmommhaaGreatDoorW.PrintMore Go.Proofs.YtbefbhghmommhaaGreatDoor.Evl
theorem rd_i {l : List Int} {i : Nat} (h : i < l.length) : rd l (i : Int) = l[i] := by simp [rd, h]
theorem any_all {α : Type} (p : α → Bool) (l : List α) : (l.any fun x => !p x) = !(l.all p) := by
 induction l with
 | nil => rfl
 | cons x t ih => simp [ih, Bool.not_and]
end Go.Proofs.YtbefbhghmommhaaGreatDoor.MWo
set_option linter.unusedVariables false
set_option linter.unusedSimpArgs false
set_option maxRecDepth 100000
namespace Go.Proofs.YtbefbhghmommhaaGreatDoor.MWo
open Go.RowKit Go.Proofs.YtbefbhghmommhaaGreatDoorW.PrintWords Go.Proofs.YtbefbhghmommhaaGreatDoorW.PrintLast Go.Proofs.YtbefbhghmommhaaGreatDoorW.PrintMore Go.Proofs.YtbefbhghmommhaaGreatDoor.Evl
theorem sprd_ok {l : List Int} : (sprd l).2 = true ↔ l ≠ [] ∧ l.all timeB = true := by
 unfold sprd
 rw [any_all]
 by_cases h : l = []
 ·simp [h]
 ·cases hb : l.all timeB <;> simp [h, hb]
def skewV (X Y : List Int) : Int × Bool := if (sprd X).2 = true ∧ (sprd Y).2 = true then (mx (wrap64 (Lib.maxOf X - Lib.minOf Y)) (wrap64 (Lib.maxOf Y - Lib.minOf X)), true) else (0, false)
theorem wskew_evl {l m : List S55} (hl : l.length ≤ 1000000) (hm : m.length ≤ 1000000) (a1 : Bool) (a2 : Int) (a3 : List Int) (b1 : Bool) (b2 : Int) (b3 : List Int) :
  Evl (fun k => watch_Skew.f k l a1 a2 a3 m b1 b2 b3) (skewV ((syn l).map (·.f3)) ((syn m).map (·.f3))) := by
 unfold watch_Skew.f
 refine Evl.bind (starts_evl hl a1 a2 a3) ?_
 refine Evl.bind (starts_evl hm b1 b2 b3) ?_
 have h1 : ((syn l).map (·.f3)).length ≤ 1000000 := by have := syn_len l; rw [List.length_map]; omega
 have h2 : ((syn m).map (·.f3)).length ≤ 1000000 := by have := syn_len m; rw [List.length_map]; omega
 generalize (syn l).map (·.f3) = X at h1 ⊢
 generalize (syn m).map (·.f3) = Y at h2 ⊢
 have e1 : gauge_Spread.f X = some ((sprd X).1, (sprd X).2) := if_pos h1
 have e2 : gauge_Spread.f Y = some ((sprd Y).1, (sprd Y).2) := if_pos h2
 simp only [e1, e2, Option.bind_some]
 unfold skewV
 by_cases hX : (sprd X).2 = true
 ·simp only [if_pos hX]
  by_cases hY : (sprd Y).2 = true
  ·rw [if_pos ⟨hX, hY⟩]
   have nX := (sprd_ok.1 hX).1
   have nY := (sprd_ok.1 hY).1
   have lX := List.length_pos_iff.2 nX
   have lY := List.length_pos_iff.2 nY
   refine Evl.succ (Evl.now fun _ => ?_)
   simp only [watch_Skew.j0, hY]
   simp only [show ((!true) = true) = False by simp, if_false]
   rw [show slices_Max_int64_int64.f X = some (Lib.maxOf X) from if_pos ⟨lX, h1⟩, show slices_Min_int64_int64.f Y = some (Lib.minOf Y) from if_pos ⟨lY, h2⟩, show slices_Max_int64_int64.f Y = some (Lib.maxOf Y) from if_pos ⟨lY, h2⟩, show slices_Min_int64_int64.f X = some (Lib.minOf X) from if_pos ⟨lX, h1⟩]
   rfl
  ·rw [if_neg (fun h => hY h.2)]
   refine Evl.succ (Evl.now fun _ => ?_)
   simp only [watch_Skew.j0, show (sprd Y).2 = false by simpa using hY]
   rfl
 ·rw [if_neg (fun h => hX h.1)]
  simp only [if_neg hX]
  exact Evl.succ (Evl.now fun _ => rfl)
def dst (x y : Int) : Int := wrap64 (max x y - min x y)
end Go.Proofs.YtbefbhghmommhaaGreatDoor.MWo
namespace Go.Proofs.YtbefbhghmommhaaGreatDoor.MWo
open Go.RowKit Go.Proofs.YtbefbhghmommhaaGreatDoorW.PrintWords Go.Proofs.YtbefbhghmommhaaGreatDoorW.PrintLast Go.Proofs.YtbefbhghmommhaaGreatDoorW.PrintMore
attribute [local go_sem] mp_u32s mp_u32m mp_u8s mp_u8m max2_int min2_int max_two min_two max_three min_three max_four min_four
set_option linter.unusedVariables false
set_option linter.unusedSimpArgs false
mutual
def dl28_small.l0 : Nat → List (S37) → Int → Option (Bool)
 | 0, _, _ => none
 | k + 1, x0, x3 => if x3 < (x0.length : Int) then (if 0 ≤ x3 then (if (((rd_T37 x0 x3).f0).length : Int) > 20 then (dl28_small.j1 k x0 x3 true) else (dl28_small.j1 k x0 x3 (decide ((((rd_T37 x0 x3).f1.f2).length : Int) > 20)))) else (none)) else (some true)
def dl28_small.j1 : Nat → List (S37) → Int → Bool → Option (Bool)
 | 0, _, _, _ => none
 | k + 1, x0, x3, x30 => if x30 = true then (some false) else (dl28_small.l1 k x0 x3 0)
def dl28_small.l1 : Nat → List (S37) → Int → Int → Option (Bool)
 | 0, _, _, _ => none
 | k + 1, x0, x3, x4 => if 0 ≤ x3 then (if x3 < (x0.length : Int) then (if x4 < (((rd_T37 x0 x3).f0).length : Int) then (if 0 ≤ x4 then (if (((rd_T55 ((rd_T37 x0 x3).f0) x4).f5).length : Int) > 20 then (some false) else (dl28_small.l1 k x0 x3 (wrap64 (x4 + 1)))) else (none)) else (dl28_small.l0 k x0 (wrap64 (x3 + 1)))) else (none)) else (none)
end
def dl28_small.f (k : Nat) (l0 : List (S37)) : Option (Bool) := if (l0.length : Int) > 20 then (some false) else (dl28_small.l0 k l0 0)
set_option maxHeartbeats 8000000 in
set_option maxRecDepth 100000 in
theorem dl28_small.calls (k : Nat) (A0 : Option Addr) (c0 : Nat) (l0 : List (S37)) (r : Bool) (w : World) (hr0 : Kd.C k37 w A0 l0.length l0) (hc0 : l0.length ≤ c0) (h : dl28_small.f k l0 = some r) :
  Calls Tryz.prog 8 #[.slice A0 l0.length c0] w fun e w' => e = .returned (.bool r) ∧ Drawn0 w w' := by
 have HR0 := am hr0
 have HC0 := am hc0
 clear hr0 hc0
 have H : (if (l0.length : Int) > 20 then (some false) else (dl28_small.l0 k l0 0)) = some r := h
 clear h
 by_cases c2 : (l0.length : Int) > 20
 ·rw [if_pos c2] at H
  have c2b0 : decide (20 < (l0.length : Int)) = true := decide_eq_true c2
  have c2b1 : decide (20 < l0.length) = true := decide_eq_true (by omega)
  clear c2
  obtain rfl := Option.some.inj H
  go_enter Tryz.func8, Tryz.ntmps8
  go_wp2
  go_ret
  exact ⟨by first | rfl | (simp; done) | (simp [*]; done), by repeat (first | exact Drawn0.refl _ | apply Drawn0.step)⟩
 ·rw [if_neg c2] at H
  have c2b0 : decide (20 < (l0.length : Int)) = false := decide_eq_false c2
  have c2b1 : decide (20 < l0.length) = false := decide_eq_false (by omega)
  clear c2
  have H' := am H
  clear H
  go_enter Tryz.func8, Tryz.ntmps8
  go_wp2
  go_loopg [3] k (fun kq v3 w' => ∃ (x3_1 : Int), v3 = .int .i64 x3_1 ∧ Aside0 (dl28_small.l0 kq l0 x3_1 = some r) ∧ Aside0 (kq ≤ k) ∧ Drawn0 w w')
  case atStart => exact ⟨(0), (by first | rfl | (simp; done) | (simp [*]; done) | (have := TNA.out; unfold wrap64; congr 1; omega) | (unfold wrap64; omega)), H', ⟨Nat.le_refl _⟩, by repeat (first | exact Drawn0.refl _ | apply Drawn0.step)⟩
  case round =>
   clear H'
   try clear c2
   try clear c2b0
   try clear c2b1
   try clear p2
   obtain ⟨x3_1, rfl, HA, HK1, ⟨m1, rfl⟩⟩ := hrel
   cases gk with
   | zero => exact absurd HA.out (by simp [dl28_small.l0])
   | succ k1 =>
    have H := HA.out
    clear HA
    simp only [dl28_small.l0] at H
    by_cases c3 : x3_1 < (l0.length : Int)
    ·rw [if_pos c3] at H
     have c3b0 : decide (x3_1 < (l0.length : Int)) = true := decide_eq_true c3
     clear c3
     have HC4 := am H
     clear H
     go_upto_region 6 with (fail)
     go_cut [30] (fun v30 wc => ∃ (kq : Nat) (x30_3 : Bool), v30 = .bool x30_3 ∧ Aside0 (dl28_small.j1 kq l0 x3_1 x30_3 = some r) ∧ Aside0 (kq ≤ k1) ∧ Drawn0 w wc)
     case first =>
      have H := HC4.out
      clear HC4
      by_cases c5 : 0 ≤ x3_1
      ·rw [if_pos c5] at H
       have c5b0 : decide (0 ≤ x3_1) = true := decide_eq_true c5
       clear c5
       (first | rw [c5b0] | (simp only [i64_w, i32_w]; rw [c5b0]) | skip)
       by_cases c6 : (((rd_T37 l0 x3_1).f0).length : Int) > 20
       ·rw [if_pos c6] at H
        have c6b0 : decide (20 < (((rd_T37 l0 x3_1).f0).length : Int)) = true := decide_eq_true c6
        have c6b1 : decide (20 < ((rd_T37 l0 x3_1).f0).length) = true := decide_eq_true (by omega)
        clear c6
        have H' := am H
        clear H
        have p184 : 0 ≤ (x3_1 : Int) := of_decide_eq_true (by first | (with_reducible assumption) | assumption)
        have q184 : x3_1 < (l0.length : Int) := of_decide_eq_true (by first | (with_reducible assumption) | assumption)
        obtain ⟨ad184, A184_0, c184_0, A184_3, c184_3, e184, hx184_0, hx184_1, hx184_2, hx184_3, hl184_0, hi184_0, hl184_3, hi184_3⟩ := at_T37 HR0.out x3_1 p184 q184
        cases e184
        have HR184_0 := am hi184_0
        have HC184_0 := am hl184_0
        clear hi184_0 hl184_0
        have HR184_3 := am hi184_3
        have HC184_3 := am hl184_3
        clear hi184_3 hl184_3
        replace p184 := eq_true p184
        replace q184 := eq_true q184
        go_wp2
        go_meet
        case rel => exact ⟨_, (true), (by first | rfl | (simp; done) | (simp [*]; done) | (have := TNA.out; unfold wrap64; congr 1; omega) | (unfold wrap64; omega)), H', ⟨by have := HK1.out; first | omega | exact Nat.le_refl _⟩, by repeat (first | exact Drawn0.refl _ | apply Drawn0.step)⟩
       ·rw [if_neg c6] at H
        have c6b0 : decide (20 < (((rd_T37 l0 x3_1).f0).length : Int)) = false := decide_eq_false c6
        have c6b1 : decide (20 < ((rd_T37 l0 x3_1).f0).length) = false := decide_eq_false (by omega)
        clear c6
        have H' := am H
        clear H
        have p184 : 0 ≤ (x3_1 : Int) := of_decide_eq_true (by first | (with_reducible assumption) | assumption)
        have q184 : x3_1 < (l0.length : Int) := of_decide_eq_true (by first | (with_reducible assumption) | assumption)
        obtain ⟨ad184, A184_0, c184_0, A184_3, c184_3, e184, hx184_0, hx184_1, hx184_2, hx184_3, hl184_0, hi184_0, hl184_3, hi184_3⟩ := at_T37 HR0.out x3_1 p184 q184
        cases e184
        have HR184_0 := am hi184_0
        have HC184_0 := am hl184_0
        clear hi184_0 hl184_0
        have HR184_3 := am hi184_3
        have HC184_3 := am hl184_3
        clear hi184_3 hl184_3
        replace p184 := eq_true p184
        replace q184 := eq_true q184
        have p185 : 0 ≤ (x3_1 : Int) := of_decide_eq_true (by first | (with_reducible assumption) | assumption)
        have q185 : x3_1 < (l0.length : Int) := of_decide_eq_true (by first | (with_reducible assumption) | assumption)
        obtain ⟨ad185, A185_0, c185_0, A185_3, c185_3, e185, hx185_0, hx185_1, hx185_2, hx185_3, hl185_0, hi185_0, hl185_3, hi185_3⟩ := at_T37 HR0.out x3_1 p185 q185
        obtain rfl : ad184 = ad185 := (by injection e185)
        have HR185_0 := am hi185_0
        have HC185_0 := am hl185_0
        clear hi185_0 hl185_0
        have HR185_3 := am hi185_3
        have HC185_3 := am hl185_3
        clear hi185_3 hl185_3
        replace p185 := eq_true p185
        replace q185 := eq_true q185
        have ea_ := Option.some.inj (hx184_0.symm.trans hx185_0)
        injection ea_ with ea_ en_ ec_
        subst ea_
        subst ec_
        clear en_
        have ea_ := Option.some.inj (hx184_3.symm.trans hx185_3)
        injection ea_ with ea_ en_ ec_
        subst ea_
        subst ec_
        clear en_
        go_wp2
        go_meet
        case rel => exact ⟨_, (decide ((((rd_T37 l0 x3_1).f1.f2).length : Int) > 20)), (by first | rfl | (simp; done) | (simp [*]; done) | (have := TNA.out; unfold wrap64; congr 1; omega) | (unfold wrap64; omega)), H', ⟨by have := HK1.out; first | omega | exact Nat.le_refl _⟩, by repeat (first | exact Drawn0.refl _ | apply Drawn0.step)⟩
      ·rw [if_neg c5] at H
       exact absurd H (by simp)
     case rest =>
      clear HC4
      try clear c1
      try clear p1
      try clear q1
      try clear hx1
      try clear c2
      try clear c2b0
      try clear c2b1
      try clear p2
      try clear c3
      try clear c3b0
      try clear c5
      try clear c5b0
      try clear c6
      try clear c6b0
      try clear c6b1
      try clear hx184_0
      try clear hx184_1
      try clear hx184_2
      try clear hx184_3
      try clear hx185_0
      try clear hx185_1
      try clear hx185_2
      try clear hx185_3
      try clear p184
      try clear p185
      try clear p2
      try clear q184
      try clear q185
      obtain ⟨kq, x30_3, rfl, HA, HJ3, ⟨mc3, rfl⟩⟩ := hcut
      cases kq with
      | zero => exact absurd HA.out (by simp [dl28_small.j1])
      | succ kj3 =>
       have H := HA.out
       clear HA
       simp only [dl28_small.j1] at H
       by_cases c7 : x30_3 = true
       ·subst c7
        have H1 : (some false) = some r := by rw [if_pos rfl] at H; exact H
        clear H
        have H := H1
        clear H1
        obtain rfl := Option.some.inj H
        go_wp2
        go_ret
        exact ⟨by first | rfl | (simp; done) | (simp [*]; done), by repeat (first | exact Drawn0.refl _ | apply Drawn0.step)⟩
       ·replace c7 := Bool.eq_false_iff.mpr c7
        subst c7
        have H1 : (dl28_small.l1 kj3 l0 x3_1 0) = some r := by rw [if_neg (show ¬ (false = true) by decide)] at H; exact H
        clear H
        have H := H1
        clear H1
        have H' := am H
        clear H
        go_wp2
        go_loopg [4] kj3 (fun kq v4 w' => ∃ (x4_3 : Int), v4 = .int .i64 x4_3 ∧ Aside0 (dl28_small.l1 kq l0 x3_1 x4_3 = some r) ∧ Aside0 (kq ≤ kj3) ∧ Drawn0 w w')
        case atStart => exact ⟨(0), (by first | rfl | (simp; done) | (simp [*]; done) | (have := TNA.out; unfold wrap64; congr 1; omega) | (unfold wrap64; omega)), H', ⟨Nat.le_refl _⟩, by repeat (first | exact Drawn0.refl _ | apply Drawn0.step)⟩
        case round =>
         clear H'
         try clear c1
         try clear p1
         try clear q1
         try clear hx1
         try clear c2
         try clear c2b0
         try clear c2b1
         try clear p2
         try clear c3
         try clear c3b0
         try clear c5
         try clear c5b0
         try clear c6
         try clear c6b0
         try clear c6b1
         try clear c7
         try clear hx184_0
         try clear hx184_1
         try clear hx184_2
         try clear hx184_3
         try clear hx185_0
         try clear hx185_1
         try clear hx185_2
         try clear hx185_3
         try clear p1
         try clear p184
         try clear p185
         try clear p2
         try clear q1
         try clear q184
         try clear q185
         obtain ⟨x4_3, rfl, HA, HK3, ⟨m3, rfl⟩⟩ := hrel
         cases gk with
         | zero => exact absurd HA.out (by simp [dl28_small.l1])
         | succ k3 =>
          have H := HA.out
          clear HA
          simp only [dl28_small.l1] at H
          by_cases c8 : 0 ≤ x3_1
          ·rw [if_pos c8] at H
           have c8b0 : decide (0 ≤ x3_1) = true := decide_eq_true c8
           clear c8
           by_cases c9 : x3_1 < (l0.length : Int)
           ·rw [if_pos c9] at H
            have c9b0 : decide (x3_1 < (l0.length : Int)) = true := decide_eq_true c9
            clear c9
            by_cases c10 : x4_3 < (((rd_T37 l0 x3_1).f0).length : Int)
            ·rw [if_pos c10] at H
             have c10b0 : decide (x4_3 < (((rd_T37 l0 x3_1).f0).length : Int)) = true := decide_eq_true c10
             clear c10
             by_cases c11 : 0 ≤ x4_3
             ·rw [if_pos c11] at H
              have c11b0 : decide (0 ≤ x4_3) = true := decide_eq_true c11
              clear c11
              by_cases c12 : (((rd_T55 ((rd_T37 l0 x3_1).f0) x4_3).f5).length : Int) > 20
              ·rw [if_pos c12] at H
               have c12b0 : decide (20 < (((rd_T55 ((rd_T37 l0 x3_1).f0) x4_3).f5).length : Int)) = true := decide_eq_true c12
               have c12b1 : decide (20 < ((rd_T55 ((rd_T37 l0 x3_1).f0) x4_3).f5).length) = true := decide_eq_true (by omega)
               clear c12
               obtain rfl := Option.some.inj H
               have p186 : 0 ≤ (x3_1 : Int) := of_decide_eq_true (by first | (with_reducible assumption) | assumption)
               have q186 : x3_1 < (l0.length : Int) := of_decide_eq_true (by first | (with_reducible assumption) | assumption)
               obtain ⟨ad186, A186_0, c186_0, A186_3, c186_3, e186, hx186_0, hx186_1, hx186_2, hx186_3, hl186_0, hi186_0, hl186_3, hi186_3⟩ := at_T37 HR0.out x3_1 p186 q186
               cases e186
               have HR186_0 := am hi186_0
               have HC186_0 := am hl186_0
               clear hi186_0 hl186_0
               have HR186_3 := am hi186_3
               have HC186_3 := am hl186_3
               clear hi186_3 hl186_3
               replace p186 := eq_true p186
               replace q186 := eq_true q186
               have p187 : 0 ≤ (x3_1 : Int) := of_decide_eq_true (by first | (with_reducible assumption) | assumption)
               have q187 : x3_1 < (l0.length : Int) := of_decide_eq_true (by first | (with_reducible assumption) | assumption)
               obtain ⟨ad187, A187_0, c187_0, A187_3, c187_3, e187, hx187_0, hx187_1, hx187_2, hx187_3, hl187_0, hi187_0, hl187_3, hi187_3⟩ := at_T37 HR0.out x3_1 p187 q187
               obtain rfl : ad186 = ad187 := (by injection e187)
               have HR187_0 := am hi187_0
               have HC187_0 := am hl187_0
               clear hi187_0 hl187_0
               have HR187_3 := am hi187_3
               have HC187_3 := am hl187_3
               clear hi187_3 hl187_3
               replace p187 := eq_true p187
               replace q187 := eq_true q187
               have ea_ := Option.some.inj (hx186_0.symm.trans hx187_0)
               injection ea_ with ea_ en_ ec_
               subst ea_
               subst ec_
               clear en_
               have ea_ := Option.some.inj (hx186_3.symm.trans hx187_3)
               injection ea_ with ea_ en_ ec_
               subst ea_
               subst ec_
               clear en_
               have p188 : 0 ≤ (x4_3 : Int) := of_decide_eq_true (by first | (with_reducible assumption) | assumption)
               have q188 : x4_3 < (((rd_T37 l0 x3_1).f0).length : Int) := of_decide_eq_true (by first | (with_reducible assumption) | assumption)
               obtain ⟨ad188, A188_5, c188_5, e188, hx188_0, hx188_1, hx188_2, hx188_3, hx188_4, hx188_5, hx188_6, hx188_7, hl188_5, hi188_5⟩ := at_T55 HR187_0.out x4_3 p188 q188
               cases e188
               have HR188_5 := am hi188_5
               have HC188_5 := am hl188_5
               clear hi188_5 hl188_5
               replace p188 := eq_true p188
               replace q188 := eq_true q188
               go_wp2
               go_ret
               exact ⟨by first | rfl | (simp; done) | (simp [*]; done), by repeat (first | exact Drawn0.refl _ | apply Drawn0.step)⟩
              ·rw [if_neg c12] at H
               have c12b0 : decide (20 < (((rd_T55 ((rd_T37 l0 x3_1).f0) x4_3).f5).length : Int)) = false := decide_eq_false c12
               have c12b1 : decide (20 < ((rd_T55 ((rd_T37 l0 x3_1).f0) x4_3).f5).length) = false := decide_eq_false (by omega)
               clear c12
               have H' := am H
               clear H
               have p186 : 0 ≤ (x3_1 : Int) := of_decide_eq_true (by first | (with_reducible assumption) | assumption)
               have q186 : x3_1 < (l0.length : Int) := of_decide_eq_true (by first | (with_reducible assumption) | assumption)
               obtain ⟨ad186, A186_0, c186_0, A186_3, c186_3, e186, hx186_0, hx186_1, hx186_2, hx186_3, hl186_0, hi186_0, hl186_3, hi186_3⟩ := at_T37 HR0.out x3_1 p186 q186
               cases e186
               have HR186_0 := am hi186_0
               have HC186_0 := am hl186_0
               clear hi186_0 hl186_0
               have HR186_3 := am hi186_3
               have HC186_3 := am hl186_3
               clear hi186_3 hl186_3
               replace p186 := eq_true p186
               replace q186 := eq_true q186
               have p187 : 0 ≤ (x3_1 : Int) := of_decide_eq_true (by first | (with_reducible assumption) | assumption)
               have q187 : x3_1 < (l0.length : Int) := of_decide_eq_true (by first | (with_reducible assumption) | assumption)
               obtain ⟨ad187, A187_0, c187_0, A187_3, c187_3, e187, hx187_0, hx187_1, hx187_2, hx187_3, hl187_0, hi187_0, hl187_3, hi187_3⟩ := at_T37 HR0.out x3_1 p187 q187
               obtain rfl : ad186 = ad187 := (by injection e187)
               have HR187_0 := am hi187_0
               have HC187_0 := am hl187_0
               clear hi187_0 hl187_0
               have HR187_3 := am hi187_3
               have HC187_3 := am hl187_3
               clear hi187_3 hl187_3
               replace p187 := eq_true p187
               replace q187 := eq_true q187
               have ea_ := Option.some.inj (hx186_0.symm.trans hx187_0)
               injection ea_ with ea_ en_ ec_
               subst ea_
               subst ec_
               clear en_
               have ea_ := Option.some.inj (hx186_3.symm.trans hx187_3)
               injection ea_ with ea_ en_ ec_
               subst ea_
               subst ec_
               clear en_
               have p188 : 0 ≤ (x4_3 : Int) := of_decide_eq_true (by first | (with_reducible assumption) | assumption)
               have q188 : x4_3 < (((rd_T37 l0 x3_1).f0).length : Int) := of_decide_eq_true (by first | (with_reducible assumption) | assumption)
               obtain ⟨ad188, A188_5, c188_5, e188, hx188_0, hx188_1, hx188_2, hx188_3, hx188_4, hx188_5, hx188_6, hx188_7, hl188_5, hi188_5⟩ := at_T55 HR187_0.out x4_3 p188 q188
               cases e188
               have HR188_5 := am hi188_5
               have HC188_5 := am hl188_5
               clear hi188_5 hl188_5
               replace p188 := eq_true p188
               replace q188 := eq_true q188
               go_wp2
               go_roundg k3
               case measure => have := HK1.out; have := HJ3.out; have := HK3.out; omega
               case rel => exact ⟨(wrap64 (x4_3 + 1)), (by first | rfl | (simp; done) | (simp [*]; done) | (have := TNA.out; unfold wrap64; congr 1; omega) | (unfold wrap64; omega)), H', ⟨by have := HK1.out; have := HJ3.out; have := HK3.out; omega⟩, by repeat (first | exact Drawn0.refl _ | apply Drawn0.step)⟩
             ·rw [if_neg c11] at H
              exact absurd H (by simp)
            ·rw [if_neg c10] at H
             have c10b0 : decide (x4_3 < (((rd_T37 l0 x3_1).f0).length : Int)) = false := decide_eq_false c10
             clear c10
             have H' := am H
             clear H
             have p186 : 0 ≤ (x3_1 : Int) := of_decide_eq_true (by first | (with_reducible assumption) | assumption)
             have q186 : x3_1 < (l0.length : Int) := of_decide_eq_true (by first | (with_reducible assumption) | assumption)
             obtain ⟨ad186, A186_0, c186_0, A186_3, c186_3, e186, hx186_0, hx186_1, hx186_2, hx186_3, hl186_0, hi186_0, hl186_3, hi186_3⟩ := at_T37 HR0.out x3_1 p186 q186
             cases e186
             have HR186_0 := am hi186_0
             have HC186_0 := am hl186_0
             clear hi186_0 hl186_0
             have HR186_3 := am hi186_3
             have HC186_3 := am hl186_3
             clear hi186_3 hl186_3
             replace p186 := eq_true p186
             replace q186 := eq_true q186
             go_wp2
             go_roundg k3
             case measure => have := HK1.out; have := HJ3.out; have := HK3.out; omega
             case rel => exact ⟨(wrap64 (x3_1 + 1)), (by first | rfl | (simp; done) | (simp [*]; done) | (have := TNA.out; unfold wrap64; congr 1; omega) | (unfold wrap64; omega)), H', ⟨by have := HK1.out; have := HJ3.out; have := HK3.out; omega⟩, by repeat (first | exact Drawn0.refl _ | apply Drawn0.step)⟩
           ·rw [if_neg c9] at H
            exact absurd H (by simp)
          ·rw [if_neg c8] at H
           exact absurd H (by simp)
    ·rw [if_neg c3] at H
     have c3b0 : decide (x3_1 < (l0.length : Int)) = false := decide_eq_false c3
     clear c3
     obtain rfl := Option.some.inj H
     go_wp2
     go_ret
     exact ⟨by first | rfl | (simp; done) | (simp [*]; done), by repeat (first | exact Drawn0.refl _ | apply Drawn0.step)⟩
end Go.Proofs.YtbefbhghmommhaaGreatDoor.MWo
set_option linter.unusedVariables false
set_option linter.unusedSimpArgs false
set_option maxRecDepth 100000
namespace Go.Proofs.YtbefbhghmommhaaGreatDoor.MWo
open Go.RowKit Go.Proofs.YtbefbhghmommhaaGreatDoorW.PrintWords Go.Proofs.YtbefbhghmommhaaGreatDoorW.PrintLast Go.Proofs.YtbefbhghmommhaaGreatDoorW.PrintMore Go.Proofs.YtbefbhghmommhaaGreatDoor.Evl
def smC (x : S37) : Bool := decide (x.f0.length ≤ 20) && (decide (x.f1.f2.length ≤ 20) && x.f0.all fun y => decide (y.f5.length ≤ 20))
def smallB (l : List S37) : Bool := decide (l.length ≤ 20) && l.all smC
theorem rd_c {l : List S37} {i : Nat} (h : i < l.length) : rd_T37 l (i : Int) = l[i] := by simp [rd_T37, h]
theorem rd_m {l : List S55} {i : Nat} (h : i < l.length) : rd_T55 l (i : Int) = l[i] := by simp [rd_T55, h]
theorem small_l1 {l : List S37} (hl : l.length ≤ 20) {i : Nat} (hi : i < l.length) (hn : (l[i]).f0.length ≤ 20) {R : Bool} (hR : Evl (fun k => dl28_small.l0 k l ((i + 1 : Nat) : Int)) R) :
  ∀ (d j : Nat), j + d = (l[i]).f0.length → Evl (fun k => dl28_small.l1 k l (i : Int) (j : Int)) (((l[i]).f0.drop j).all (fun y => decide (y.f5.length ≤ 20)) && R)
 | 0, j, h => by
  refine Evl.succ ?_
  simp only [dl28_small.l1]
  simp only [if_pos (show (0 : Int) ≤ (i : Int) by omega), if_pos (show (i : Int) < (l.length : Int) by omega), rd_c hi, if_neg (show ¬ ((j : Int) < ((l[i]).f0.length : Int)) by omega), List.drop_eq_nil_iff.2 (show (l[i]).f0.length ≤ j by omega), w64n (show i < 2000000 by omega)]
  simpa using hR
 | d + 1, j, h => by
  have hj : j < (l[i]).f0.length := by omega
  refine Evl.succ ?_
  simp only [dl28_small.l1]
  simp only [if_pos (show (0 : Int) ≤ (i : Int) by omega), if_pos (show (i : Int) < (l.length : Int) by omega), rd_c hi, if_pos (show ((j : Int) < ((l[i]).f0.length : Int)) by omega), if_pos (show (0 : Int) ≤ (j : Int) by omega), rd_m hj, w64n (show j < 2000000 by omega)]
  rw [List.drop_eq_getElem_cons hj, List.all_cons]
  by_cases e : (((l[i]).f0[j]).f5).length ≤ 20
  ·simp only [if_neg (show ¬ ((((((l[i]).f0[j]).f5).length : Nat) : Int) > 20) by omega)]
   rw [show decide ((((l[i]).f0[j]).f5).length ≤ 20) = true from decide_eq_true e, Bool.true_and]
   exact small_l1 hl hi hn hR d (j + 1) (by omega)
  ·simp only [if_pos (show ((((((l[i]).f0[j]).f5).length : Nat) : Int) > 20) by omega)]
   rw [show decide ((((l[i]).f0[j]).f5).length ≤ 20) = false from decide_eq_false e]
   exact Evl.now fun _ => rfl
theorem small_l0 {l : List S37} (hl : l.length ≤ 20) : ∀ (d i : Nat), i + d = l.length → Evl (fun k => dl28_small.l0 k l (i : Int)) ((l.drop i).all smC)
 | 0, i, h => by
  refine Evl.succ ?_
  simp only [dl28_small.l0]
  simp only [if_neg (show ¬ ((i : Int) < (l.length : Int)) by omega), List.drop_eq_nil_iff.2 (show l.length ≤ i by omega)]
  exact Evl.now fun _ => rfl
 | d + 1, i, h => by
  have hi : i < l.length := by omega
  refine Evl.succ ?_
  simp only [dl28_small.l0]
  simp only [if_pos (show (i : Int) < (l.length : Int) by omega), if_pos (show (0 : Int) ≤ (i : Int) by omega), rd_c hi]
  rw [List.drop_eq_getElem_cons hi, List.all_cons]
  have ih := small_l0 hl d (i + 1) (by omega)
  unfold smC
  by_cases e : (l[i]).f0.length ≤ 20
  ·simp only [if_neg (show ¬ ((((l[i]).f0.length : Nat) : Int) > 20) by omega)]
   rw [show decide ((l[i]).f0.length ≤ 20) = true from decide_eq_true e, Bool.true_and]
   refine Evl.succ ?_
   simp only [dl28_small.j1]
   by_cases e2 : (l[i]).f1.f2.length ≤ 20
   ·simp only [show decide (((((l[i]).f1.f2).length : Nat) : Int) > 20) = false from decide_eq_false (by omega)]
    rw [show decide ((l[i]).f1.f2.length ≤ 20) = true from decide_eq_true e2, Bool.true_and]
    have := small_l1 hl hi e (R := (l.drop (i + 1)).all smC) ih (l[i]).f0.length 0 (by omega)
    exact this
   ·simp only [show decide (((((l[i]).f1.f2).length : Nat) : Int) > 20) = true from decide_eq_true (by omega)]
    rw [show decide ((l[i]).f1.f2.length ≤ 20) = false from decide_eq_false e2]
    exact Evl.now fun _ => rfl
  ·simp only [if_pos (show ((((l[i]).f0.length : Nat) : Int) > 20) by omega)]
   rw [show decide ((l[i]).f0.length ≤ 20) = false from decide_eq_false e]
   exact Evl.succ (Evl.now fun _ => rfl)
theorem small_evl (l : List S37) : Evl (fun k => dl28_small.f k l) (smallB l) := by
 unfold dl28_small.f smallB
 by_cases h : l.length ≤ 20
 ·simp only [if_neg (show ¬ ((l.length : Int) > 20) by omega)]
  rw [show decide (l.length ≤ 20) = true from decide_eq_true h, Bool.true_and]
  exact small_l0 h l.length 0 (by omega)
 ·simp only [if_pos (show ((l.length : Int) > 20) by omega)]
  rw [show decide (l.length ≤ 20) = false from decide_eq_false h]
  exact Evl.now fun _ => rfl
end Go.Proofs.YtbefbhghmommhaaGreatDoor.MWo
namespace Go.Proofs.YtbefbhghmommhaaGreatDoor.MWo
open Go.RowKit Go.Proofs.YtbefbhghmommhaaGreatDoorW.PrintWords Go.Proofs.YtbefbhghmommhaaGreatDoorW.PrintLast Go.Proofs.YtbefbhghmommhaaGreatDoorW.PrintMore
attribute [local go_sem] mp_u32s mp_u32m mp_u8s mp_u8m max2_int min2_int max_two min_two max_three min_three max_four min_four
set_option linter.unusedVariables false
set_option linter.unusedSimpArgs false
def dr26_ports.l0 : Nat → Int → Int → Int → List (S68) → List (S71) → Int → Int → Int → Int → Int → Int → Int → Int → Int → Int → Int → Option (Int)
 | 0, _, _, _, _, _, _, _, _, _, _, _, _, _, _, _, _ => none
 | k + 1, x1, x5, x6, x277000, x277001, x277002, x277003, x277004, x277005, x277006, x277007, x277008, x277009, x277010, x277011, x277012 => if x6 < (x277001.length : Int) then (if 0 ≤ x6 then (if ((rd_T71 x277001 x6).f0) = x1 then (dr26_ports.l0 k x1 (wrap64 (x5 + 2)) (wrap64 (x6 + 1)) x277000 x277001 x277002 x277003 x277004 x277005 x277006 x277007 x277008 x277009 x277010 x277011 x277012) else (if ((rd_T71 x277001 x6).f1) = x1 then (dr26_ports.l0 k x1 (wrap64 (x5 + 2)) (wrap64 (x6 + 1)) x277000 x277001 x277002 x277003 x277004 x277005 x277006 x277007 x277008 x277009 x277010 x277011 x277012) else (dr26_ports.l0 k x1 x5 (wrap64 (x6 + 1)) x277000 x277001 x277002 x277003 x277004 x277005 x277006 x277007 x277008 x277009 x277010 x277011 x277012))) else (none)) else (some x5)
def dr26_ports.f (k : Nat) (l0_0 : List (S68)) (l0_1 : List (S71)) (a0_2 : Int) (a0_3 : Int) (a0_4 : Int) (a0_5 : Int) (a0_6 : Int) (a0_7 : Int) (a0_8 : Int) (a0_9 : Int) (a0_10 : Int) (a0_11 : Int) (a0_12 : Int) (a1 : Int) : Option (Int) := dr26_ports.l0 k a1 0 0 l0_0 l0_1 a0_2 a0_3 a0_4 a0_5 a0_6 a0_7 a0_8 a0_9 a0_10 a0_11 a0_12
set_option maxHeartbeats 8000000 in
set_option maxRecDepth 100000 in
theorem dr26_ports.calls (k : Nat) (A0_0 : Option Addr) (c0_0 : Nat) (l0_0 : List (S68)) (A0_1 : Option Addr) (c0_1 : Nat) (l0_1 : List (S71)) (a0_2 : Int) (a0_3 : Int) (a0_4 : Int) (a0_5 : Int) (a0_6 : Int) (a0_7 : Int) (a0_8 : Int) (a0_9 : Int) (a0_10 : Int) (a0_11 : Int) (a0_12 : Int) (a1 : Int) (r : Int) (w : World) (hr0_0 : Kd.C k68 w A0_0 l0_0.length l0_0) (hc0_0 : l0_0.length ≤ c0_0) (hr0_1 : Kd.C k71 w A0_1 l0_1.length l0_1) (hc0_1 : l0_1.length ≤ c0_1) (h : dr26_ports.f k l0_0 l0_1 a0_2 a0_3 a0_4 a0_5 a0_6 a0_7 a0_8 a0_9 a0_10 a0_11 a0_12 a1 = some r) :
  Calls Tryz.prog 60 #[.agg #[.slice A0_0 l0_0.length c0_0, .slice A0_1 l0_1.length c0_1, .int .i64 a0_2, .int .i64 a0_3, .int .i64 a0_4, .int .i64 a0_5, .int .i64 a0_6, .int .i64 a0_7, .int .i64 a0_8, .int .i64 a0_9, .int .i64 a0_10, .int .i64 a0_11, .int .i64 a0_12], .int .i64 a1] w fun e w' => e = .returned (.int .i64 r) ∧ Below w.heap.size w w' := by
 have hu25 := Tryz.underlying25
 have HR0_0 := am hr0_0
 have HC0_0 := am hc0_0
 clear hr0_0 hc0_0
 have HR0_1 := am hr0_1
 have HC0_1 := am hc0_1
 clear hr0_1 hc0_1
 have HB := am (Below.refl w.heap.size w)
 have H : (dr26_ports.l0 k a1 0 0 l0_0 l0_1 a0_2 a0_3 a0_4 a0_5 a0_6 a0_7 a0_8 a0_9 a0_10 a0_11 a0_12) = some r := h
 clear h
 have H' := am H
 clear H
 go_enter Tryz.func60, Tryz.ntmps60
 go_wp2_with (first | ((with_reducible refine gate_dst (N := 2) rfl ?_); refine box_event ?hg (N := 2) ?hd (cs := #[.slice A0_0 l0_0.length c0_0, .slice A0_1 l0_1.length c0_1, .int .i64 a0_2, .int .i64 a0_3, .int .i64 a0_4, .int .i64 a0_5, .int .i64 a0_6, .int .i64 a0_7, .int .i64 a0_8, .int .i64 a0_9, .int .i64 a0_10, .int .i64 a0_11, .int .i64 a0_12]) (t := 25) ?hr ?_; (case hd => rfl); (case hg => rfl); (case hr => first | (go_simp; done) | (go_simp; rfl)); intro gb276 hg w3 hbox hb; have n0_ := am (below_step (by repeat (first | (with_reducible first | exact HB.out | apply below_alloc | apply pw_below_drewN | apply below_drew1) | exact HB.out)) hb); have n1_ := am (hbox); have n2_ := am ((by rw [hg]; exact (below_size (by repeat (first | (with_reducible first | exact HB.out | apply below_alloc | apply pw_below_drewN | apply below_drew1) | exact HB.out))) : w.heap.size ≤ gb276)); have n3_ := am ((by rw [hg]; exact (below_size (by repeat (first | (with_reducible first | exact HB.out | apply below_alloc | apply pw_below_drewN | apply below_drew1) | exact HB.out))) : w.heap.size ≤ gb276)); clear HB; have HB := n0_; have BK276 := n1_; have GW276 := n2_; have GE276 := n3_; clear n0_ n1_ n2_ n3_; clear hb hbox hg))
 go_loopg [5, 6] k (fun kq v5 v6 w' => ∃ (x5_1 : Int) (x6_1 : Int), v5 = .int .i64 x5_1 ∧ v6 = .int .i64 x6_1 ∧ Aside0 (dr26_ports.l0 kq a1 x5_1 x6_1 l0_0 l0_1 a0_2 a0_3 a0_4 a0_5 a0_6 a0_7 a0_8 a0_9 a0_10 a0_11 a0_12 = some r) ∧ Aside0 (kq ≤ k) ∧ Aside0 (w'.heap[gb276]? = some (.cells #[(.slice A0_0 l0_0.length c0_0), (.slice A0_1 l0_1.length c0_1), .int .i64 a0_2, .int .i64 a0_3, .int .i64 a0_4, .int .i64 a0_5, .int .i64 a0_6, .int .i64 a0_7, .int .i64 a0_8, .int .i64 a0_9, .int .i64 a0_10, .int .i64 a0_11, .int .i64 a0_12] 25 (0, 0))) ∧ Aside0 (Below w.heap.size w w'))
 case atStart => exact ⟨(0), (0), (by first | rfl | (simp; done) | (simp [*]; done) | (have := TNA.out; unfold wrap64; congr 1; omega) | (unfold wrap64; omega)), (by first | rfl | (simp; done) | (simp [*]; done) | (have := TNA.out; unfold wrap64; congr 1; omega) | (unfold wrap64; omega)), H', ⟨Nat.le_refl _⟩, ⟨by (with_reducible repeat (first | refine blk_drewN ?_ _ | refine blk_drew ?_ | refine blk_alloc ?_ _)); exact BK276.out⟩, ⟨by repeat (first | (with_reducible first | exact HB.out | apply below_alloc | apply pw_below_drewN | apply below_drew1 | refine below_set ?_ GE276.out) | exact HB.out)⟩⟩
 case round =>
  clear H'
  try clear p2
  obtain ⟨x5_1, x6_1, rfl, rfl, HA, HK1, BK276, HB⟩ := hrel
  cases gk with
  | zero => exact absurd HA.out (by simp [dr26_ports.l0])
  | succ k1 =>
   have H := HA.out
   clear HA
   simp only [dr26_ports.l0] at H
   by_cases c4 : x6_1 < (l0_1.length : Int)
   ·rw [if_pos c4] at H
    have c4b0 : decide (x6_1 < (l0_1.length : Int)) = true := decide_eq_true c4
    clear c4
    by_cases c5 : 0 ≤ x6_1
    ·rw [if_pos c5] at H
     have c5b0 : decide (0 ≤ x6_1) = true := decide_eq_true c5
     clear c5
     by_cases c6 : ((rd_T71 l0_1 x6_1).f0) = a1
     ·rw [if_pos c6] at H
      have c6b0 : (((rd_T71 l0_1 x6_1).f0) == a1) = true := beq_iff_eq.mpr c6
      have c6b1 : (((rd_T71 l0_1 x6_1).f0) != a1) = false := bne_eq_false_iff_eq.mpr c6
      clear c6
      have H' := am H
      clear H
      obtain ⟨hcz7_0, hcz7_1, hcz7_2, hcz7_3, hcz7_4, hcz7_5, hcz7_6, hcz7_7, hcz7_8, hcz7_9, hcz7_10, hcz7_11, hcz7_12⟩ := cellsK13 BK276.out
      obtain ⟨hfz7_0, hfz7_1, hfz7_2, hfz7_3, hfz7_4, hfz7_5, hfz7_6, hfz7_7, hfz7_8, hfz7_9, hfz7_10, hfz7_11, hfz7_12⟩ := frozK13 BK276.out
      have p277 : 0 ≤ (x6_1 : Int) := of_decide_eq_true (by first | (with_reducible assumption) | assumption)
      have q277 : x6_1 < (l0_1.length : Int) := of_decide_eq_true (by first | (with_reducible assumption) | assumption)
      obtain ⟨ad277, e277, hx277_0, hx277_1, hx277_2, hx277_3, hx277_4, hx277_5⟩ := at_T71 HR0_1.out x6_1 p277 q277
      cases e277
      replace hx277_0 := (HB.out.cell (World.block_lt_of_cell? w _ hx277_0)).trans hx277_0
      replace hx277_1 := (HB.out.cell (World.block_lt_of_cell? w _ hx277_1)).trans hx277_1
      replace hx277_2 := (HB.out.cell (World.block_lt_of_cell? w _ hx277_2)).trans hx277_2
      replace hx277_3 := (HB.out.cell (World.block_lt_of_cell? w _ hx277_3)).trans hx277_3
      replace hx277_4 := (HB.out.cell (World.block_lt_of_cell? w _ hx277_4)).trans hx277_4
      replace hx277_5 := (HB.out.cell (World.block_lt_of_cell? w _ hx277_5)).trans hx277_5
      replace p277 := eq_true p277
      replace q277 := eq_true q277
      go_wp2
      go_roundg k1
      case measure => have := HK1.out; omega
      case rel => exact ⟨(wrap64 (x5_1 + 2)), (wrap64 (x6_1 + 1)), (by first | rfl | (simp; done) | (simp [*]; done) | (have := TNA.out; unfold wrap64; congr 1; omega) | (unfold wrap64; omega)), (by first | rfl | (simp; done) | (simp [*]; done) | (have := TNA.out; unfold wrap64; congr 1; omega) | (unfold wrap64; omega)), H', ⟨by have := HK1.out; omega⟩, ⟨by (with_reducible repeat (first | refine blk_drewN ?_ _ | refine blk_drew ?_ | refine blk_alloc ?_ _)); exact BK276.out⟩, ⟨by repeat (first | (with_reducible first | exact HB.out | apply below_alloc | apply pw_below_drewN | apply below_drew1 | refine below_set ?_ GE276.out) | exact HB.out)⟩⟩
     ·rw [if_neg c6] at H
      have c6b0 : (((rd_T71 l0_1 x6_1).f0) == a1) = false := beq_eq_false_iff_ne.mpr c6
      have c6b1 : (((rd_T71 l0_1 x6_1).f0) != a1) = true := bne_iff_ne.mpr c6
      by_cases c8 : ((rd_T71 l0_1 x6_1).f1) = a1
      ·rw [if_pos c8] at H
       have c8b0 : (((rd_T71 l0_1 x6_1).f1) == a1) = true := beq_iff_eq.mpr c8
       have c8b1 : (((rd_T71 l0_1 x6_1).f1) != a1) = false := bne_eq_false_iff_eq.mpr c8
       clear c8
       have H' := am H
       clear H
       obtain ⟨hcz9_0, hcz9_1, hcz9_2, hcz9_3, hcz9_4, hcz9_5, hcz9_6, hcz9_7, hcz9_8, hcz9_9, hcz9_10, hcz9_11, hcz9_12⟩ := cellsK13 BK276.out
       obtain ⟨hfz9_0, hfz9_1, hfz9_2, hfz9_3, hfz9_4, hfz9_5, hfz9_6, hfz9_7, hfz9_8, hfz9_9, hfz9_10, hfz9_11, hfz9_12⟩ := frozK13 BK276.out
       have p277 : 0 ≤ (x6_1 : Int) := of_decide_eq_true (by first | (with_reducible assumption) | assumption)
       have q277 : x6_1 < (l0_1.length : Int) := of_decide_eq_true (by first | (with_reducible assumption) | assumption)
       obtain ⟨ad277, e277, hx277_0, hx277_1, hx277_2, hx277_3, hx277_4, hx277_5⟩ := at_T71 HR0_1.out x6_1 p277 q277
       cases e277
       replace hx277_0 := (HB.out.cell (World.block_lt_of_cell? w _ hx277_0)).trans hx277_0
       replace hx277_1 := (HB.out.cell (World.block_lt_of_cell? w _ hx277_1)).trans hx277_1
       replace hx277_2 := (HB.out.cell (World.block_lt_of_cell? w _ hx277_2)).trans hx277_2
       replace hx277_3 := (HB.out.cell (World.block_lt_of_cell? w _ hx277_3)).trans hx277_3
       replace hx277_4 := (HB.out.cell (World.block_lt_of_cell? w _ hx277_4)).trans hx277_4
       replace hx277_5 := (HB.out.cell (World.block_lt_of_cell? w _ hx277_5)).trans hx277_5
       replace p277 := eq_true p277
       replace q277 := eq_true q277
       have p278 : 0 ≤ (x6_1 : Int) := of_decide_eq_true (by first | (with_reducible assumption) | assumption)
       have q278 : x6_1 < (l0_1.length : Int) := of_decide_eq_true (by first | (with_reducible assumption) | assumption)
       obtain ⟨ad278, e278, hx278_0, hx278_1, hx278_2, hx278_3, hx278_4, hx278_5⟩ := at_T71 HR0_1.out x6_1 p278 q278
       obtain rfl : ad277 = ad278 := (by injection e278)
       replace hx278_0 := (HB.out.cell (World.block_lt_of_cell? w _ hx278_0)).trans hx278_0
       replace hx278_1 := (HB.out.cell (World.block_lt_of_cell? w _ hx278_1)).trans hx278_1
       replace hx278_2 := (HB.out.cell (World.block_lt_of_cell? w _ hx278_2)).trans hx278_2
       replace hx278_3 := (HB.out.cell (World.block_lt_of_cell? w _ hx278_3)).trans hx278_3
       replace hx278_4 := (HB.out.cell (World.block_lt_of_cell? w _ hx278_4)).trans hx278_4
       replace hx278_5 := (HB.out.cell (World.block_lt_of_cell? w _ hx278_5)).trans hx278_5
       replace p278 := eq_true p278
       replace q278 := eq_true q278
       go_wp2
       go_roundg k1
       case measure => have := HK1.out; omega
       case rel => exact ⟨(wrap64 (x5_1 + 2)), (wrap64 (x6_1 + 1)), (by first | rfl | (simp; done) | (simp [*]; done) | (have := TNA.out; unfold wrap64; congr 1; omega) | (unfold wrap64; omega)), (by first | rfl | (simp; done) | (simp [*]; done) | (have := TNA.out; unfold wrap64; congr 1; omega) | (unfold wrap64; omega)), H', ⟨by have := HK1.out; omega⟩, ⟨by (with_reducible repeat (first | refine blk_drewN ?_ _ | refine blk_drew ?_ | refine blk_alloc ?_ _)); exact BK276.out⟩, ⟨by repeat (first | (with_reducible first | exact HB.out | apply below_alloc | apply pw_below_drewN | apply below_drew1 | refine below_set ?_ GE276.out) | exact HB.out)⟩⟩
      ·rw [if_neg c8] at H
       have c8b0 : (((rd_T71 l0_1 x6_1).f1) == a1) = false := beq_eq_false_iff_ne.mpr c8
       have c8b1 : (((rd_T71 l0_1 x6_1).f1) != a1) = true := bne_iff_ne.mpr c8
       have H' := am H
       clear H
       obtain ⟨hcz10_0, hcz10_1, hcz10_2, hcz10_3, hcz10_4, hcz10_5, hcz10_6, hcz10_7, hcz10_8, hcz10_9, hcz10_10, hcz10_11, hcz10_12⟩ := cellsK13 BK276.out
       obtain ⟨hfz10_0, hfz10_1, hfz10_2, hfz10_3, hfz10_4, hfz10_5, hfz10_6, hfz10_7, hfz10_8, hfz10_9, hfz10_10, hfz10_11, hfz10_12⟩ := frozK13 BK276.out
       have p277 : 0 ≤ (x6_1 : Int) := of_decide_eq_true (by first | (with_reducible assumption) | assumption)
       have q277 : x6_1 < (l0_1.length : Int) := of_decide_eq_true (by first | (with_reducible assumption) | assumption)
       obtain ⟨ad277, e277, hx277_0, hx277_1, hx277_2, hx277_3, hx277_4, hx277_5⟩ := at_T71 HR0_1.out x6_1 p277 q277
       cases e277
       replace hx277_0 := (HB.out.cell (World.block_lt_of_cell? w _ hx277_0)).trans hx277_0
       replace hx277_1 := (HB.out.cell (World.block_lt_of_cell? w _ hx277_1)).trans hx277_1
       replace hx277_2 := (HB.out.cell (World.block_lt_of_cell? w _ hx277_2)).trans hx277_2
       replace hx277_3 := (HB.out.cell (World.block_lt_of_cell? w _ hx277_3)).trans hx277_3
       replace hx277_4 := (HB.out.cell (World.block_lt_of_cell? w _ hx277_4)).trans hx277_4
       replace hx277_5 := (HB.out.cell (World.block_lt_of_cell? w _ hx277_5)).trans hx277_5
       replace p277 := eq_true p277
       replace q277 := eq_true q277
       have p278 : 0 ≤ (x6_1 : Int) := of_decide_eq_true (by first | (with_reducible assumption) | assumption)
       have q278 : x6_1 < (l0_1.length : Int) := of_decide_eq_true (by first | (with_reducible assumption) | assumption)
       obtain ⟨ad278, e278, hx278_0, hx278_1, hx278_2, hx278_3, hx278_4, hx278_5⟩ := at_T71 HR0_1.out x6_1 p278 q278
       obtain rfl : ad277 = ad278 := (by injection e278)
       replace hx278_0 := (HB.out.cell (World.block_lt_of_cell? w _ hx278_0)).trans hx278_0
       replace hx278_1 := (HB.out.cell (World.block_lt_of_cell? w _ hx278_1)).trans hx278_1
       replace hx278_2 := (HB.out.cell (World.block_lt_of_cell? w _ hx278_2)).trans hx278_2
       replace hx278_3 := (HB.out.cell (World.block_lt_of_cell? w _ hx278_3)).trans hx278_3
       replace hx278_4 := (HB.out.cell (World.block_lt_of_cell? w _ hx278_4)).trans hx278_4
       replace hx278_5 := (HB.out.cell (World.block_lt_of_cell? w _ hx278_5)).trans hx278_5
       replace p278 := eq_true p278
       replace q278 := eq_true q278
       go_wp2
       go_roundg k1
       case measure => have := HK1.out; omega
       case rel => exact ⟨(x5_1), (wrap64 (x6_1 + 1)), (by first | rfl | (simp; done) | (simp [*]; done) | (have := TNA.out; unfold wrap64; congr 1; omega) | (unfold wrap64; omega)), (by first | rfl | (simp; done) | (simp [*]; done) | (have := TNA.out; unfold wrap64; congr 1; omega) | (unfold wrap64; omega)), H', ⟨by have := HK1.out; omega⟩, ⟨by (with_reducible repeat (first | refine blk_drewN ?_ _ | refine blk_drew ?_ | refine blk_alloc ?_ _)); exact BK276.out⟩, ⟨by repeat (first | (with_reducible first | exact HB.out | apply below_alloc | apply pw_below_drewN | apply below_drew1 | refine below_set ?_ GE276.out) | exact HB.out)⟩⟩
    ·rw [if_neg c5] at H
     exact absurd H (by simp)
   ·rw [if_neg c4] at H
    have c4b0 : decide (x6_1 < (l0_1.length : Int)) = false := decide_eq_false c4
    clear c4
    obtain rfl := Option.some.inj H
    obtain ⟨hcz11_0, hcz11_1, hcz11_2, hcz11_3, hcz11_4, hcz11_5, hcz11_6, hcz11_7, hcz11_8, hcz11_9, hcz11_10, hcz11_11, hcz11_12⟩ := cellsK13 BK276.out
    obtain ⟨hfz11_0, hfz11_1, hfz11_2, hfz11_3, hfz11_4, hfz11_5, hfz11_6, hfz11_7, hfz11_8, hfz11_9, hfz11_10, hfz11_11, hfz11_12⟩ := frozK13 BK276.out
    go_wp2
    go_ret
    exact ⟨by first | rfl | (simp [errW_none, errW_some] <;> rfl) | (simp [*, errW_none, errW_some] <;> rfl), by repeat (first | (with_reducible first | exact HB.out | apply below_alloc | apply pw_below_drewN | apply below_drew1 | refine below_set ?_ GE276.out) | exact HB.out)⟩
def dr5_is.f (a0 : Int) (a1 : Int) : Option (Bool) := if a0 ≥ 0 then (some (decide (a0 < a1))) else (some false)
set_option maxHeartbeats 8000000 in
set_option maxRecDepth 100000 in
theorem dr5_is.calls (a0 : Int) (a1 : Int) (r : Bool) (w : World) (h : dr5_is.f a0 a1 = some r) :
  Calls Tryz.prog 63 #[.int .i64 a0, .int .i64 a1] w fun e w' => e = .returned (.bool r) ∧ Drawn0 w w' := by
 have H : (if a0 ≥ 0 then (some (decide (a0 < a1))) else (some false)) = some r := h
 clear h
 by_cases c3 : a0 ≥ 0
 ·rw [if_pos c3] at H
  have c3b0 : decide (0 ≤ a0) = true := decide_eq_true c3
  clear c3
  obtain rfl := Option.some.inj H
  go_enter Tryz.func63, Tryz.ntmps63
  go_wp2
  go_ret
  exact ⟨by first | rfl | (simp; done) | (simp [*]; done), by repeat (first | exact Drawn0.refl _ | apply Drawn0.step)⟩
 ·rw [if_neg c3] at H
  have c3b0 : decide (0 ≤ a0) = false := decide_eq_false c3
  clear c3
  obtain rfl := Option.some.inj H
  go_enter Tryz.func63, Tryz.ntmps63
  go_wp2
  go_ret
  exact ⟨by first | rfl | (simp; done) | (simp [*]; done), by repeat (first | exact Drawn0.refl _ | apply Drawn0.step)⟩
end Go.Proofs.YtbefbhghmommhaaGreatDoor.MWo


set_option linter.unusedVariables false
set_option linter.unusedSimpArgs false
namespace Go.Proofs.YtbefbhghmommhaaGreatDoor.MWo
open Go.RowKit Go.Proofs.YtbefbhghmommhaaGreatDoorW.PrintWords Go.Proofs.YtbefbhghmommhaaGreatDoorW.PrintLast Go.Proofs.YtbefbhghmommhaaGreatDoorW.PrintMore
def Part (W : World) (B n k : Nat) (v : Int) : Prop := ∃ cur, W.heap[B]? = some (.cells cur 3 (0, 0)) ∧ cur.size = n ∧ ∀ j, j < k → cur[j]? = some (.int .i64 v)
theorem Part.row {W : World} {B n : Nat} {v : Int} (h : Part W B n n v) (base : Nat) (hb : base ≤ B) (hn : n ≤ 1000) : Kd.R (Kd.int .i64) 3 W base (fun _ => True) (.slice (some ⟨B, 0, none⟩) n n) (List.replicate n v) := by
 obtain ⟨cur, h1, h2, h3⟩ := h
 refine Kd.R_of_own ?_ (fun _ _ => trivial)
 rw [List.length_replicate]
 refine ⟨by simp [encs], .inr ⟨B, n, cur, rfl, hb, h1, Nat.le_refl _, by unfold maxLen; omega, by rw [h2, Nat.mul_one], ?_⟩⟩
 apply List.ext_getElem?
 intro j
 by_cases hj : j < n
 ·rw [List.getElem?_take, if_pos (by omega), Array.getElem?_toList, h3 j hj]
  simp [encs, hj]
 ·rw [List.getElem?_take, if_neg (by omega)]
  symm
  rw [List.getElem?_eq_none_iff]
  simp [encs]
  omega
end Go.Proofs.YtbefbhghmommhaaGreatDoor.MWo




set_option linter.unusedVariables false
set_option linter.unusedSimpArgs false
namespace Go.Proofs.YtbefbhghmommhaaGreatDoor.MWo
open Go.RowKit Go.Proofs.YtbefbhghmommhaaGreatDoorW.PrintWords Go.Proofs.YtbefbhghmommhaaGreatDoorW.PrintLast Go.Proofs.YtbefbhghmommhaaGreatDoorW.PrintMore
structure SideOk (P : List S68) (T : List S71) (part : Int) (p : S69) : Prop where
 ne : (p.f0 == p.f1) = false
 part0 : 0 ≤ part
 part1 : part < P.length
 n0 : 0 ≤ p.f0
 n1 : p.f0 < (rd_T68 P part).f0
 m0 : 0 ≤ p.f1
 m1 : p.f1 < (rd_T68 P part).f0
 t0 : T.any (takes part p.f0) = false
 t1 : T.any (takes part p.f1) = false
end Go.Proofs.YtbefbhghmommhaaGreatDoor.MWo
set_option linter.unusedVariables false
set_option linter.unusedSimpArgs false
namespace Go.Proofs.YtbefbhghmommhaaGreatDoor.MWo
open Go.RowKit Go.Proofs.YtbefbhghmommhaaGreatDoorW.PrintWords Go.Proofs.YtbefbhghmommhaaGreatDoorW.PrintLast Go.Proofs.YtbefbhghmommhaaGreatDoorW.PrintMore
def sameEnds (a b : Int) (x : S71) : Bool := x.f0 == a && x.f1 == b
structure LinkOk (P : List S68) (T : List S71) (x : S71) : Prop where
 a0 : 0 ≤ x.f0
 ab : x.f0 < x.f1
 b1 : x.f1 < P.length
 once : T.any (sameEnds x.f0 x.f1) = false
 s0 : SideOk P T x.f0 x.f2
 s1 : SideOk P T x.f1 x.f3
def PartOk (p : S68) : Prop := 1 ≤ p.f0 ∧ p.f0 ≤ 12 ∧ 0 ≤ p.f1 ∧ p.f1 ≤ 3 ∧ 3 * p.f1 + 1 ≤ p.f0
end Go.Proofs.YtbefbhghmommhaaGreatDoor.MWo
set_option linter.unusedVariables false
set_option linter.unusedSimpArgs false
namespace Go.Proofs.YtbefbhghmommhaaGreatDoor.MWo
open Go.RowKit Go.Proofs.YtbefbhghmommhaaGreatDoorW.PrintWords Go.Proofs.YtbefbhghmommhaaGreatDoorW.PrintLast Go.Proofs.YtbefbhghmommhaaGreatDoorW.PrintMore
structure NetOk (P : List S68) (L : List S71) : Prop where
 p1 : 1 ≤ P.length
 p6 : P.length ≤ 6
 parts : ∀ i : Int, 0 ≤ i → i < P.length → PartOk (rd_T68 P i)
 l10 : L.length ≤ 10
 links : ∀ i : Int, 0 ≤ i → i < L.length → LinkOk P (L.take i.toNat) (rd_T71 L i)
def sideB (P : List S68) (T : List S71) (part : Int) (p : S69) : Bool := !(p.f0 == p.f1) && (decide (0 ≤ part) && (decide (part < P.length) && (decide (0 ≤ p.f0) && (decide (p.f0 < (rd_T68 P part).f0) && (decide (0 ≤ p.f1) && (decide (p.f1 < (rd_T68 P part).f0) && (!T.any (takes part p.f0) && !T.any (takes part p.f1))))))))
def linkB (P : List S68) (T : List S71) (x : S71) : Bool := decide (0 ≤ x.f0) && (decide (x.f0 < x.f1) && (decide (x.f1 < P.length) && (!T.any (sameEnds x.f0 x.f1) && (sideB P T x.f0 x.f2 && sideB P T x.f1 x.f3))))
def partB (p : S68) : Bool := decide (1 ≤ p.f0) && (decide (p.f0 ≤ 12) && (decide (0 ≤ p.f1) && (decide (p.f1 ≤ 3) && decide (3 * p.f1 + 1 ≤ p.f0))))
def netB (P : List S68) (L : List S71) : Bool := decide (1 ≤ P.length) && (decide (P.length ≤ 6) && ((List.range P.length).all (fun i => partB (rd_T68 P i)) && (decide (L.length ≤ 10) && (List.range L.length).all (fun i => linkB P (L.take i) (rd_T71 L i)))))
theorem sideB_ok {P : List S68} {T : List S71} {part : Int} {p : S69} (h : sideB P T part p = true) : SideOk P T part p := by
 unfold sideB at h
 simp only [Bool.and_eq_true, decide_eq_true_eq, Bool.not_eq_true'] at h
 obtain ⟨h1, h2, h3, h4, h5, h6, h7, h8, h9⟩ := h
 exact ⟨h1, h2, h3, h4, h5, h6, h7, h8, h9⟩
theorem linkB_ok {P : List S68} {T : List S71} {x : S71} (h : linkB P T x = true) : LinkOk P T x := by
 unfold linkB at h
 simp only [Bool.and_eq_true, decide_eq_true_eq, Bool.not_eq_true'] at h
 obtain ⟨h1, h2, h3, h4, h5, h6⟩ := h
 exact ⟨h1, h2, h3, h4, sideB_ok h5, sideB_ok h6⟩
theorem netB_ok {P : List S68} {L : List S71} (h : netB P L = true) : NetOk P L := by
 unfold netB at h
 simp only [Bool.and_eq_true, decide_eq_true_eq, List.all_eq_true, List.mem_range] at h
 obtain ⟨h1, h2, h3, h4, h5⟩ := h
 refine ⟨h1, h2, fun i i0 i1 => ?_, h4, fun i i0 i1 => ?_⟩
 ·obtain ⟨n, rfl⟩ := Int.eq_ofNat_of_zero_le i0
  have := h3 n (by omega)
  unfold partB at this
  simp only [Bool.and_eq_true, decide_eq_true_eq] at this
  exact this
 ·obtain ⟨n, rfl⟩ := Int.eq_ofNat_of_zero_le i0
  exact linkB_ok (h5 n (by omega))
end Go.Proofs.YtbefbhghmommhaaGreatDoor.MWo
set_option linter.unusedVariables false
set_option linter.unusedSimpArgs false
namespace Go.Proofs.YtbefbhghmommhaaGreatDoor.MWo
open Go.RowKit Go.Proofs.YtbefbhghmommhaaGreatDoorW.PrintWords Go.Proofs.YtbefbhghmommhaaGreatDoorW.PrintLast Go.Proofs.YtbefbhghmommhaaGreatDoorW.PrintMore
theorem any_take {L : List S71} {p : S71 → Bool} {n i : Int} (h : (L.take n.toNat).any p = false) (h0 : 0 ≤ i) (h1 : i < n) (h2 : n ≤ L.length) : p (rd_T71 L i) = false := by
 rw [List.any_eq_false] at h
 have hi : i.toNat < (L.take n.toNat).length := by rw [List.length_take]; omega
 have := h _ (List.getElem_mem hi)
 rw [List.getElem_take] at this
 have hi2 : i.toNat < L.length := by omega
 have e : rd_T71 L i = L[i.toNat] := by simp [rd_T71, List.getD_eq_getElem?_getD, hi2]
 rw [e]
 simpa using this
set_option maxHeartbeats 8000000 in
set_option maxRecDepth 4000 in
theorem port_no (A0 : Option Addr) (c0 : Nat) (P : List S68) (A1 : Option Addr) (c1 : Nat) (L : List S71) (a2 a3 a4 a5 a6 a7 a8 a9 a10 a11 a12 : Int) (nl part node : Int) (w : World) (hr0 : Kd.C k68 w A0 P.length P) (hc0 : P.length ≤ c0) (hr1 : Kd.C k71 w A1 L.length L) (hc1 : L.length ≤ c1) (hL : L.length ≤ 1000) (hn0 : 0 ≤ nl) (hn1 : nl ≤ L.length) (ht : (L.take nl.toNat).any (takes part node) = false) :
  Calls Tryz.prog 103 #[.agg #[.slice A0 P.length c0, .slice A1 L.length c1, .int .i64 a2, .int .i64 a3, .int .i64 a4, .int .i64 a5, .int .i64 a6, .int .i64 a7, .int .i64 a8, .int .i64 a9, .int .i64 a10, .int .i64 a11, .int .i64 a12], .int .i64 nl, .int .i64 part, .int .i64 node] w fun e w' => e = .returned (.tuple #[.agg #[.int .i64 0, .int .i64 0, .int .i64 0, .int .i64 0], .bool false]) ∧ Below w.heap.size w w' := by
 have HR1 := am hr1
 have HT := am ht
 have HL := am (show L.length ≤ 1000 ∧ 0 ≤ nl ∧ nl ≤ (L.length : Int) from ⟨hL, hn0, hn1⟩)
 clear hr0 hr1 hc0 hc1 ht hL hn0 hn1
 go_enter Tryz.func103, Tryz.ntmps103
 go_upto_region 1 with fail
 have HO : Aside0 (((w.alloc (.cells #[.slice A0 P.length c0, .slice A1 L.length c1, .int .i64 a2, .int .i64 a3, .int .i64 a4, .int .i64 a5, .int .i64 a6, .int .i64 a7, .int .i64 a8, .int .i64 a9, .int .i64 a10, .int .i64 a11, .int .i64 a12] 25)).alloc (.cells #[.int .i64 0, .int .i64 0, .int .i64 0, .int .i64 0] 136)).heap[w.heap.size]? = some (.cells #[.slice A0 P.length c0, .slice A1 L.length c1, .int .i64 a2, .int .i64 a3, .int .i64 a4, .int .i64 a5, .int .i64 a6, .int .i64 a7, .int .i64 a8, .int .i64 a9, .int .i64 a10, .int .i64 a11, .int .i64 a12] 25)) := ⟨by
  have h0 : (w.alloc (.cells #[.slice A0 P.length c0, .slice A1 L.length c1, .int .i64 a2, .int .i64 a3, .int .i64 a4, .int .i64 a5, .int .i64 a6, .int .i64 a7, .int .i64 a8, .int .i64 a9, .int .i64 a10, .int .i64 a11, .int .i64 a12] 25)).heap[w.heap.size]? = some (.cells #[.slice A0 P.length c0, .slice A1 L.length c1, .int .i64 a2, .int .i64 a3, .int .i64 a4, .int .i64 a5, .int .i64 a6, .int .i64 a7, .int .i64 a8, .int .i64 a9, .int .i64 a10, .int .i64 a11, .int .i64 a12] 25) := heap_alloc_new _ _
  exact ((below_alloc (Below.refl _ (w.alloc (.cells #[.slice A0 P.length c0, .slice A1 L.length c1, .int .i64 a2, .int .i64 a3, .int .i64 a4, .int .i64 a5, .int .i64 a6, .int .i64 a7, .int .i64 a8, .int .i64 a9, .int .i64 a10, .int .i64 a11, .int .i64 a12] 25))) _).block _ (blk_lt h0)).trans h0⟩
 have HZ : Aside0 (((w.alloc (.cells #[.slice A0 P.length c0, .slice A1 L.length c1, .int .i64 a2, .int .i64 a3, .int .i64 a4, .int .i64 a5, .int .i64 a6, .int .i64 a7, .int .i64 a8, .int .i64 a9, .int .i64 a10, .int .i64 a11, .int .i64 a12] 25)).alloc (.cells #[.int .i64 0, .int .i64 0, .int .i64 0, .int .i64 0] 136)).heap[w.heap.size + 1]? = some (.cells #[.int .i64 0, .int .i64 0, .int .i64 0, .int .i64 0] 136)) := ⟨by have := heap_alloc_new (w.alloc (.cells #[.slice A0 P.length c0, .slice A1 L.length c1, .int .i64 a2, .int .i64 a3, .int .i64 a4, .int .i64 a5, .int .i64 a6, .int .i64 a7, .int .i64 a8, .int .i64 a9, .int .i64 a10, .int .i64 a11, .int .i64 a12] 25)) (.cells #[.int .i64 0, .int .i64 0, .int .i64 0, .int .i64 0] 136); simpa using this⟩
 have HB := am (below_alloc (below_alloc (Below.refl w.heap.size w) (Obj.cells #[.slice A0 P.length c0, .slice A1 L.length c1, .int .i64 a2, .int .i64 a3, .int .i64 a4, .int .i64 a5, .int .i64 a6, .int .i64 a7, .int .i64 a8, .int .i64 a9, .int .i64 a10, .int .i64 a11, .int .i64 a12] 25)) (Obj.cells #[.int .i64 0, .int .i64 0, .int .i64 0, .int .i64 0] 136))
 generalize (w.alloc (.cells #[.slice A0 P.length c0, .slice A1 L.length c1, .int .i64 a2, .int .i64 a3, .int .i64 a4, .int .i64 a5, .int .i64 a6, .int .i64 a7, .int .i64 a8, .int .i64 a9, .int .i64 a10, .int .i64 a11, .int .i64 a12] 25)).alloc (.cells #[.int .i64 0, .int .i64 0, .int .i64 0, .int .i64 0] 136) = wa at *
 obtain ⟨bz, hbz⟩ : ∃ bz, bz = w.heap.size + 1 := ⟨_, rfl⟩
 obtain ⟨bx, hbx⟩ : ∃ bx, bx = w.heap.size := ⟨_, rfl⟩
 rw [← hbz, ← hbx]
 rw [← hbx] at HO
 rw [← hbz] at HZ
 have HBz : Aside0 (w.heap.size ≤ bz) := ⟨by omega⟩
 clear hbx hbz
 go_wp2_with fail
 go_loopg [10] (L.length + 1) (fun kq v10 w' => ∃ i : Int, v10 = .int .i64 i ∧ Aside0 (kq + i = L.length + 1 ∧ 0 ≤ i ∧ i ≤ nl) ∧ Aside0 (Below w.heap.size w w') ∧ Aside0 (w'.heap[bx]? = some (.cells #[.slice A0 P.length c0, .slice A1 L.length c1, .int .i64 a2, .int .i64 a3, .int .i64 a4, .int .i64 a5, .int .i64 a6, .int .i64 a7, .int .i64 a8, .int .i64 a9, .int .i64 a10, .int .i64 a11, .int .i64 a12] 25)) ∧ Aside0 (w'.heap[bz]? = some (.cells #[.int .i64 0, .int .i64 0, .int .i64 0, .int .i64 0] 136)))
 case atStart => exact ⟨0, rfl, ⟨by have := HL.out; omega⟩, HB, HO, HZ⟩
 case round =>
  clear HO HB HZ
  obtain ⟨i, rfl, HK, HB, HO, HZ⟩ := hrel
  by_cases hi1 : i < nl
  ·have hi0 := HK.out.2.1
   have hiL : i < (L.length : Int) := by have := HL.out; omega
   obtain ⟨ad1, e1, y0, y1, y2, y3, y4, y5⟩ := at_T71 (Kd.C_below HR1.out HB.out) i hi0 hiL
   cases e1
   have htk := any_take HT.out hi0 hi1 HL.out.2.2
   obtain ⟨x, hx⟩ : ∃ x, rd_T71 L i = x := ⟨_, rfl⟩
   rw [hx] at y0 y1 y2 y3 y4 y5 htk
   clear hx
   obtain ⟨a, b, ⟨p0, p1⟩, ⟨q0, q1⟩⟩ := x
   dsimp only at y0 y1 y2 y3 y4 y5
   have htk' : ((a == part && (p0 == node || p1 == node)) || (b == part && (q0 == node || q1 == node))) = false := htk
   clear htk
   have hlt : decide (i < nl) = true := decide_eq_true hi1
   have q0_ := eq_true hi0
   have q1_ := eq_true hiL
   have hw1 : wrap64 (i + 1) = i + 1 := by have := HL.out; unfold wrap64; omega
   cases gk with
   | zero => exact absurd HK.out (by have := HL.out; omega)
   | succ k1 =>
   clear hi0 hi1 hiL
   obtain ⟨x0, x1, x2, x3, x4, x5, x6, x7, x8, x9, x10, x11, x12⟩ := cellsK13 HO.out
   go_upto_region 5 with fail
   have HB1 := am (below_alloc HB.out (Obj.cells #[.int .i64 a, .int .i64 b, .int .i64 p0, .int .i64 p1, .int .i64 q0, .int .i64 q1] 71))
   have HO1 := am (((below_alloc (Below.refl wr.heap.size wr) (Obj.cells #[.int .i64 a, .int .i64 b, .int .i64 p0, .int .i64 p1, .int .i64 q0, .int .i64 q1] 71)).block bx (blk_lt HO.out)).trans HO.out)
   have HZ1 := am (((below_alloc (Below.refl wr.heap.size wr) (Obj.cells #[.int .i64 a, .int .i64 b, .int .i64 p0, .int .i64 p1, .int .i64 q0, .int .i64 q1] 71)).block bz (blk_lt HZ.out)).trans HZ.out)
   have HLk1 : Aside0 ((wr.alloc (Obj.cells #[.int .i64 a, .int .i64 b, .int .i64 p0, .int .i64 p1, .int .i64 q0, .int .i64 q1] 71)).heap[wr.heap.size]? = some (Obj.cells #[.int .i64 a, .int .i64 b, .int .i64 p0, .int .i64 p1, .int .i64 q0, .int .i64 q1] 71)) := ⟨heap_alloc_new _ _⟩
   clear x0 x1 x2 x3 x4 x5 x6 x7 x8 x9 x10 x11 x12 y0 y1 y2 y3 y4 y5
   generalize wr.alloc (Obj.cells #[.int .i64 a, .int .i64 b, .int .i64 p0, .int .i64 p1, .int .i64 q0, .int .i64 q1] 71) = w1 at *
   generalize wr.heap.size = bl at *
   obtain ⟨l0, l1, l2, l3, l4, l5⟩ := cellsK6 HLk1.out
   cases ha : (a == part) with
   | false =>
    cases hb : (b == part) with
    | false =>
     clear htk'
     go_wp2_with fail
     refine wp_loop_rounds 3 ?_
     rw [rounds_succ]
     go_wp2_with fail
     rw [rounds_succ]
     go_wp2_with fail
     rw [rounds_succ]
     go_wp2_with fail
     go_roundg k1
     case measure => have := HK.out; omega
     case rel => exact ⟨i + 1, (by first | rfl | rw [hw1]), ⟨by have := HK.out; have := of_decide_eq_true hlt; omega⟩, HB1, HO1, HZ1⟩
    | true =>
     have hq0 : (q0 == node) = false := by cases h : (q0 == node) <;> simp [hb, h] at htk' ⊢
     have hq1 : (q1 == node) = false := by cases h : (q1 == node) <;> simp [hb, h] at htk' ⊢
     clear htk'
     go_wp2_with fail
     refine wp_loop_rounds 3 ?_
     rw [rounds_succ]
     go_wp2_with fail
     rw [rounds_succ]
     go_wp2_with fail
     rw [rounds_succ]
     go_wp2_with fail
     go_roundg k1
     case measure => have := HK.out; omega
     case rel => exact ⟨i + 1, (by first | rfl | rw [hw1]), ⟨by have := HK.out; have := of_decide_eq_true hlt; omega⟩, HB1, HO1, HZ1⟩
   | true =>
    have hp0 : (p0 == node) = false := by cases h : (p0 == node) <;> simp [ha, h] at htk' ⊢
    have hp1 : (p1 == node) = false := by cases h : (p1 == node) <;> simp [ha, h] at htk' ⊢
    cases hb : (b == part) with
    | false =>
     clear htk'
     go_wp2_with fail
     refine wp_loop_rounds 3 ?_
     rw [rounds_succ]
     go_wp2_with fail
     rw [rounds_succ]
     go_wp2_with fail
     rw [rounds_succ]
     go_wp2_with fail
     go_roundg k1
     case measure => have := HK.out; omega
     case rel => exact ⟨i + 1, (by first | rfl | rw [hw1]), ⟨by have := HK.out; have := of_decide_eq_true hlt; omega⟩, HB1, HO1, HZ1⟩
    | true =>
     have hq0 : (q0 == node) = false := by cases h : (q0 == node) <;> simp [hb, h] at htk' ⊢
     have hq1 : (q1 == node) = false := by cases h : (q1 == node) <;> simp [hb, h] at htk' ⊢
     clear htk'
     go_wp2_with fail
     refine wp_loop_rounds 3 ?_
     rw [rounds_succ]
     go_wp2_with fail
     rw [rounds_succ]
     go_wp2_with fail
     rw [rounds_succ]
     go_wp2_with fail
     go_roundg k1
     case measure => have := HK.out; omega
     case rel => exact ⟨i + 1, (by first | rfl | rw [hw1]), ⟨by have := HK.out; have := of_decide_eq_true hlt; omega⟩, HB1, HO1, HZ1⟩
  ·have hlt : decide (i < nl) = false := decide_eq_false hi1
   obtain ⟨hz0, hz1, hz2, hz3⟩ := cellsK4 HZ.out
   have hf0 := blk_frozen HZ.out 0
   have hf1 := blk_frozen HZ.out 1
   have hf2 := blk_frozen HZ.out 2
   have hf3 := blk_frozen HZ.out 3
   go_wp2_with fail
   refine bodyPost_ret (results_ct rfl _ _ bz 136 #[.int .i64 0, .int .i64 0, .int .i64 0, .int .i64 0] (0, 0) _ rfl (by
    have h := blk_set (blk_set (blk_set (blk_set HZ.out 0 (.int .i64 0)) 1 (.int .i64 0)) 2 (.int .i64 0)) 3 (.int .i64 0)
    simpa using h) Tryz.underlying136 rfl (by kernel_rfl)) rfl ?_
   exact ⟨rfl, (((HB.out.setCell HBz.out _).setCell HBz.out _).setCell HBz.out _).setCell HBz.out _⟩
end Go.Proofs.YtbefbhghmommhaaGreatDoor.MWo
