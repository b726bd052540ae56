/- Texts of this claim, laid together by a program (wip/g/merge3.py): MWox55. -/
import Derived.Test.YtbefbhghmommhaaGreatDoorZWa3
namespace Go.Proofs.YtbefbhghmommhaaGreatDoor.MWo
open Go.RowKit Go.Proofs.YtbefbhghmommhaaGreatDoorW.PrintWords Go.Proofs.YtbefbhghmommhaaGreatDoorW.PrintLast Go.Proofs.YtbefbhghmommhaaGreatDoorW.PrintMore
attribute [local go_sem] mp_u32s mp_u32m mp_u8s mp_u8m max2_int min2_int max_two min_two max_three min_three max_four min_four
set_option linter.unusedVariables false
set_option linter.unusedSimpArgs false
mutual
def dl28_small.l0 : Nat → List (S37) → Int → Option (Bool)
 | 0, _, _ => none
 | k + 1, x0, x3 => if x3 < (x0.length : Int) then (if 0 ≤ x3 then (if (((rd_T37 x0 x3).f0).length : Int) > 20 then (dl28_small.j1 k x0 x3 true) else (dl28_small.j1 k x0 x3 (decide ((((rd_T37 x0 x3).f1.f2).length : Int) > 20)))) else (none)) else (some true)
def dl28_small.j1 : Nat → List (S37) → Int → Bool → Option (Bool)
 | 0, _, _, _ => none
 | k + 1, x0, x3, x30 => if x30 = true then (some false) else (dl28_small.l1 k x0 x3 0)
def dl28_small.l1 : Nat → List (S37) → Int → Int → Option (Bool)
 | 0, _, _, _ => none
 | k + 1, x0, x3, x4 => if 0 ≤ x3 then (if x3 < (x0.length : Int) then (if x4 < (((rd_T37 x0 x3).f0).length : Int) then (if 0 ≤ x4 then (if (((rd_T55 ((rd_T37 x0 x3).f0) x4).f5).length : Int) > 20 then (some false) else (dl28_small.l1 k x0 x3 (wrap64 (x4 + 1)))) else (none)) else (dl28_small.l0 k x0 (wrap64 (x3 + 1)))) else (none)) else (none)
end
def dl28_small.f (k : Nat) (l0 : List (S37)) : Option (Bool) := if (l0.length : Int) > 20 then (some false) else (dl28_small.l0 k l0 0)
theorem dl28_small.mono_l : ∀ k, (∀ y0 y1, LeO (dl28_small.l0 k y0 y1) (dl28_small.l0 (k + 1) y0 y1)) ∧ (∀ y0 y1 y2, LeO (dl28_small.j1 k y0 y1 y2) (dl28_small.j1 (k + 1) y0 y1 y2)) ∧ (∀ y0 y1 y2, LeO (dl28_small.l1 k y0 y1 y2) (dl28_small.l1 (k + 1) y0 y1 y2))
 | 0 => ⟨fun _ _ r h => by simp [dl28_small.l0] at h, fun _ _ _ r h => by simp [dl28_small.j1] at h, fun _ _ _ r h => by simp [dl28_small.l1] at h⟩
 | k + 1 => by
  obtain ⟨ih0, ih1, ih2⟩ := dl28_small.mono_l k
  refine ⟨?_, ?_, ?_⟩
  ·intro y0 y1
   unfold dl28_small.l0
   repeat' first
   | (with_reducible exact ih0 _ _)
   | (with_reducible exact ih1 _ _ _)
   | (with_reducible exact ih2 _ _ _)
   | (with_reducible exact LeO.refl _)
   | (with_reducible exact LeO.none _)
   | (with_reducible refine LeO.ite ?_ ?_)
   | (with_reducible refine LeO.bind ?_ (fun _ => ?_))
   | exact ih0 _ _
   | exact ih1 _ _ _
   | exact ih2 _ _ _
   | exact LeO.none _
   | refine LeO.ite ?_ ?_
   | refine LeO.bind ?_ (fun _ => ?_)
  ·intro y0 y1 y2
   unfold dl28_small.j1
   repeat' first
   | (with_reducible exact ih0 _ _)
   | (with_reducible exact ih1 _ _ _)
   | (with_reducible exact ih2 _ _ _)
   | (with_reducible exact LeO.refl _)
   | (with_reducible exact LeO.none _)
   | (with_reducible refine LeO.ite ?_ ?_)
   | (with_reducible refine LeO.bind ?_ (fun _ => ?_))
   | exact ih0 _ _
   | exact ih1 _ _ _
   | exact ih2 _ _ _
   | exact LeO.none _
   | refine LeO.ite ?_ ?_
   | refine LeO.bind ?_ (fun _ => ?_)
  ·intro y0 y1 y2
   unfold dl28_small.l1
   repeat' first
   | (with_reducible exact ih0 _ _)
   | (with_reducible exact ih1 _ _ _)
   | (with_reducible exact ih2 _ _ _)
   | (with_reducible exact LeO.refl _)
   | (with_reducible exact LeO.none _)
   | (with_reducible refine LeO.ite ?_ ?_)
   | (with_reducible refine LeO.bind ?_ (fun _ => ?_))
   | exact ih0 _ _
   | exact ih1 _ _ _
   | exact ih2 _ _ _
   | exact LeO.none _
   | refine LeO.ite ?_ ?_
   | refine LeO.bind ?_ (fun _ => ?_)
theorem dl28_small.mono : ∀ a0 k, LeO (dl28_small.f k a0) (dl28_small.f (k + 1) a0) := by
 intro a0 k
 obtain ⟨ih0, ih1, ih2⟩ := dl28_small.mono_l k
 unfold dl28_small.f
 repeat' first
   | (with_reducible exact ih0 _ _)
   | (with_reducible exact ih1 _ _ _)
   | (with_reducible exact ih2 _ _ _)
   | (with_reducible exact LeO.refl _)
   | (with_reducible exact LeO.none _)
   | (with_reducible refine LeO.ite ?_ ?_)
   | (with_reducible refine LeO.bind ?_ (fun _ => ?_))
   | exact ih0 _ _
   | exact ih1 _ _ _
   | exact ih2 _ _ _
   | exact LeO.none _
   | refine LeO.ite ?_ ?_
   | refine LeO.bind ?_ (fun _ => ?_)
set_option maxHeartbeats 8000000 in
set_option maxRecDepth 100000 in
theorem dl28_small.calls (k : Nat) (A0 : Option Addr) (c0 : Nat) (l0 : List (S37)) (r : Bool) (w : World) (hr0 : Kd.C k37 w A0 l0.length l0) (hc0 : l0.length ≤ c0) (h : dl28_small.f k l0 = some r) :
  Calls Tryz.prog 8 #[.slice A0 l0.length c0] w fun e w' => e = .returned (.bool r) ∧ Drawn0 w w' := by
 have HR0 := am hr0
 have HC0 := am hc0
 clear hr0 hc0
 have H : (if (l0.length : Int) > 20 then (some false) else (dl28_small.l0 k l0 0)) = some r := h
 clear h
 by_cases c2 : (l0.length : Int) > 20
 ·rw [if_pos c2] at H
  have c2b0 : decide (20 < (l0.length : Int)) = true := decide_eq_true c2
  have c2b1 : decide (20 < l0.length) = true := decide_eq_true (by omega)
  clear c2
  obtain rfl := Option.some.inj H
  go_enter Tryz.func8, Tryz.ntmps8
  go_wp2
  go_ret
  exact ⟨by first | rfl | (simp; done) | (simp [*]; done), by repeat (first | exact Drawn0.refl _ | apply Drawn0.step)⟩
 ·rw [if_neg c2] at H
  have c2b0 : decide (20 < (l0.length : Int)) = false := decide_eq_false c2
  have c2b1 : decide (20 < l0.length) = false := decide_eq_false (by omega)
  clear c2
  have H' := am H
  clear H
  go_enter Tryz.func8, Tryz.ntmps8
  go_wp2
  go_loopg [3] k (fun kq v3 w' => ∃ (x3_1 : Int), v3 = .int .i64 x3_1 ∧ Aside0 (dl28_small.l0 kq l0 x3_1 = some r) ∧ Aside0 (kq ≤ k) ∧ Drawn0 w w')
  case atStart => exact ⟨(0), (by first | rfl | (simp; done) | (simp [*]; done) | (have := TNA.out; unfold wrap64; congr 1; omega) | (unfold wrap64; omega)), H', ⟨Nat.le_refl _⟩, by repeat (first | exact Drawn0.refl _ | apply Drawn0.step)⟩
  case round =>
   clear H'
   try clear c2
   try clear c2b0
   try clear c2b1
   try clear p2
   obtain ⟨x3_1, rfl, HA, HK1, ⟨m1, rfl⟩⟩ := hrel
   cases gk with
   | zero => exact absurd HA.out (by simp [dl28_small.l0])
   | succ k1 =>
    have H := HA.out
    clear HA
    simp only [dl28_small.l0] at H
    by_cases c3 : x3_1 < (l0.length : Int)
    ·rw [if_pos c3] at H
     have c3b0 : decide (x3_1 < (l0.length : Int)) = true := decide_eq_true c3
     clear c3
     have HC4 := am H
     clear H
     go_upto_region 6 with (fail)
     go_cut [30] (fun v30 wc => ∃ (kq : Nat) (x30_3 : Bool), v30 = .bool x30_3 ∧ Aside0 (dl28_small.j1 kq l0 x3_1 x30_3 = some r) ∧ Aside0 (kq ≤ k1) ∧ Drawn0 w wc)
     case first =>
      have H := HC4.out
      clear HC4
      by_cases c5 : 0 ≤ x3_1
      ·rw [if_pos c5] at H
       have c5b0 : decide (0 ≤ x3_1) = true := decide_eq_true c5
       clear c5
       (first | rw [c5b0] | (simp only [i64_w, i32_w]; rw [c5b0]) | skip)
       by_cases c6 : (((rd_T37 l0 x3_1).f0).length : Int) > 20
       ·rw [if_pos c6] at H
        have c6b0 : decide (20 < (((rd_T37 l0 x3_1).f0).length : Int)) = true := decide_eq_true c6
        have c6b1 : decide (20 < ((rd_T37 l0 x3_1).f0).length) = true := decide_eq_true (by omega)
        clear c6
        have H' := am H
        clear H
        have p184 : 0 ≤ (x3_1 : Int) := of_decide_eq_true (by first | (with_reducible assumption) | assumption)
        have q184 : x3_1 < (l0.length : Int) := of_decide_eq_true (by first | (with_reducible assumption) | assumption)
        obtain ⟨ad184, A184_0, c184_0, A184_3, c184_3, e184, hx184_0, hx184_1, hx184_2, hx184_3, hl184_0, hi184_0, hl184_3, hi184_3⟩ := at_T37 HR0.out x3_1 p184 q184
        cases e184
        have HR184_0 := am hi184_0
        have HC184_0 := am hl184_0
        clear hi184_0 hl184_0
        have HR184_3 := am hi184_3
        have HC184_3 := am hl184_3
        clear hi184_3 hl184_3
        replace p184 := eq_true p184
        replace q184 := eq_true q184
        go_wp2
        go_meet
        case rel => exact ⟨_, (true), (by first | rfl | (simp; done) | (simp [*]; done) | (have := TNA.out; unfold wrap64; congr 1; omega) | (unfold wrap64; omega)), H', ⟨by have := HK1.out; first | omega | exact Nat.le_refl _⟩, by repeat (first | exact Drawn0.refl _ | apply Drawn0.step)⟩
       ·rw [if_neg c6] at H
        have c6b0 : decide (20 < (((rd_T37 l0 x3_1).f0).length : Int)) = false := decide_eq_false c6
        have c6b1 : decide (20 < ((rd_T37 l0 x3_1).f0).length) = false := decide_eq_false (by omega)
        clear c6
        have H' := am H
        clear H
        have p184 : 0 ≤ (x3_1 : Int) := of_decide_eq_true (by first | (with_reducible assumption) | assumption)
        have q184 : x3_1 < (l0.length : Int) := of_decide_eq_true (by first | (with_reducible assumption) | assumption)
        obtain ⟨ad184, A184_0, c184_0, A184_3, c184_3, e184, hx184_0, hx184_1, hx184_2, hx184_3, hl184_0, hi184_0, hl184_3, hi184_3⟩ := at_T37 HR0.out x3_1 p184 q184
        cases e184
        have HR184_0 := am hi184_0
        have HC184_0 := am hl184_0
        clear hi184_0 hl184_0
        have HR184_3 := am hi184_3
        have HC184_3 := am hl184_3
        clear hi184_3 hl184_3
        replace p184 := eq_true p184
        replace q184 := eq_true q184
        have p185 : 0 ≤ (x3_1 : Int) := of_decide_eq_true (by first | (with_reducible assumption) | assumption)
        have q185 : x3_1 < (l0.length : Int) := of_decide_eq_true (by first | (with_reducible assumption) | assumption)
        obtain ⟨ad185, A185_0, c185_0, A185_3, c185_3, e185, hx185_0, hx185_1, hx185_2, hx185_3, hl185_0, hi185_0, hl185_3, hi185_3⟩ := at_T37 HR0.out x3_1 p185 q185
        obtain rfl : ad184 = ad185 := (by injection e185)
        have HR185_0 := am hi185_0
        have HC185_0 := am hl185_0
        clear hi185_0 hl185_0
        have HR185_3 := am hi185_3
        have HC185_3 := am hl185_3
        clear hi185_3 hl185_3
        replace p185 := eq_true p185
        replace q185 := eq_true q185
        have ea_ := Option.some.inj (hx184_0.symm.trans hx185_0)
        injection ea_ with ea_ en_ ec_
        subst ea_
        subst ec_
        clear en_
        have ea_ := Option.some.inj (hx184_3.symm.trans hx185_3)
        injection ea_ with ea_ en_ ec_
        subst ea_
        subst ec_
        clear en_
        go_wp2
        go_meet
        case rel => exact ⟨_, (decide ((((rd_T37 l0 x3_1).f1.f2).length : Int) > 20)), (by first | rfl | (simp; done) | (simp [*]; done) | (have := TNA.out; unfold wrap64; congr 1; omega) | (unfold wrap64; omega)), H', ⟨by have := HK1.out; first | omega | exact Nat.le_refl _⟩, by repeat (first | exact Drawn0.refl _ | apply Drawn0.step)⟩
      ·rw [if_neg c5] at H
       exact absurd H (by simp)
     case rest =>
      clear HC4
      try clear c1
      try clear p1
      try clear q1
      try clear hx1
      try clear c2
      try clear c2b0
      try clear c2b1
      try clear p2
      try clear c3
      try clear c3b0
      try clear c5
      try clear c5b0
      try clear c6
      try clear c6b0
      try clear c6b1
      try clear hx184_0
      try clear hx184_1
      try clear hx184_2
      try clear hx184_3
      try clear hx185_0
      try clear hx185_1
      try clear hx185_2
      try clear hx185_3
      try clear p184
      try clear p185
      try clear p2
      try clear q184
      try clear q185
      obtain ⟨kq, x30_3, rfl, HA, HJ3, ⟨mc3, rfl⟩⟩ := hcut
      cases kq with
      | zero => exact absurd HA.out (by simp [dl28_small.j1])
      | succ kj3 =>
       have H := HA.out
       clear HA
       simp only [dl28_small.j1] at H
       by_cases c7 : x30_3 = true
       ·subst c7
        have H1 : (some false) = some r := by rw [if_pos rfl] at H; exact H
        clear H
        have H := H1
        clear H1
        obtain rfl := Option.some.inj H
        go_wp2
        go_ret
        exact ⟨by first | rfl | (simp; done) | (simp [*]; done), by repeat (first | exact Drawn0.refl _ | apply Drawn0.step)⟩
       ·replace c7 := Bool.eq_false_iff.mpr c7
        subst c7
        have H1 : (dl28_small.l1 kj3 l0 x3_1 0) = some r := by rw [if_neg (show ¬ (false = true) by decide)] at H; exact H
        clear H
        have H := H1
        clear H1
        have H' := am H
        clear H
        go_wp2
        go_loopg [4] kj3 (fun kq v4 w' => ∃ (x4_3 : Int), v4 = .int .i64 x4_3 ∧ Aside0 (dl28_small.l1 kq l0 x3_1 x4_3 = some r) ∧ Aside0 (kq ≤ kj3) ∧ Drawn0 w w')
        case atStart => exact ⟨(0), (by first | rfl | (simp; done) | (simp [*]; done) | (have := TNA.out; unfold wrap64; congr 1; omega) | (unfold wrap64; omega)), H', ⟨Nat.le_refl _⟩, by repeat (first | exact Drawn0.refl _ | apply Drawn0.step)⟩
        case round =>
         clear H'
         try clear c1
         try clear p1
         try clear q1
         try clear hx1
         try clear c2
         try clear c2b0
         try clear c2b1
         try clear p2
         try clear c3
         try clear c3b0
         try clear c5
         try clear c5b0
         try clear c6
         try clear c6b0
         try clear c6b1
         try clear c7
         try clear hx184_0
         try clear hx184_1
         try clear hx184_2
         try clear hx184_3
         try clear hx185_0
         try clear hx185_1
         try clear hx185_2
         try clear hx185_3
         try clear p1
         try clear p184
         try clear p185
         try clear p2
         try clear q1
         try clear q184
         try clear q185
         obtain ⟨x4_3, rfl, HA, HK3, ⟨m3, rfl⟩⟩ := hrel
         cases gk with
         | zero => exact absurd HA.out (by simp [dl28_small.l1])
         | succ k3 =>
          have H := HA.out
          clear HA
          simp only [dl28_small.l1] at H
          by_cases c8 : 0 ≤ x3_1
          ·rw [if_pos c8] at H
           have c8b0 : decide (0 ≤ x3_1) = true := decide_eq_true c8
           clear c8
           by_cases c9 : x3_1 < (l0.length : Int)
           ·rw [if_pos c9] at H
            have c9b0 : decide (x3_1 < (l0.length : Int)) = true := decide_eq_true c9
            clear c9
            by_cases c10 : x4_3 < (((rd_T37 l0 x3_1).f0).length : Int)
            ·rw [if_pos c10] at H
             have c10b0 : decide (x4_3 < (((rd_T37 l0 x3_1).f0).length : Int)) = true := decide_eq_true c10
             clear c10
             by_cases c11 : 0 ≤ x4_3
             ·rw [if_pos c11] at H
              have c11b0 : decide (0 ≤ x4_3) = true := decide_eq_true c11
              clear c11
              by_cases c12 : (((rd_T55 ((rd_T37 l0 x3_1).f0) x4_3).f5).length : Int) > 20
              ·rw [if_pos c12] at H
               have c12b0 : decide (20 < (((rd_T55 ((rd_T37 l0 x3_1).f0) x4_3).f5).length : Int)) = true := decide_eq_true c12
               have c12b1 : decide (20 < ((rd_T55 ((rd_T37 l0 x3_1).f0) x4_3).f5).length) = true := decide_eq_true (by omega)
               clear c12
               obtain rfl := Option.some.inj H
               have p186 : 0 ≤ (x3_1 : Int) := of_decide_eq_true (by first | (with_reducible assumption) | assumption)
               have q186 : x3_1 < (l0.length : Int) := of_decide_eq_true (by first | (with_reducible assumption) | assumption)
               obtain ⟨ad186, A186_0, c186_0, A186_3, c186_3, e186, hx186_0, hx186_1, hx186_2, hx186_3, hl186_0, hi186_0, hl186_3, hi186_3⟩ := at_T37 HR0.out x3_1 p186 q186
               cases e186
               have HR186_0 := am hi186_0
               have HC186_0 := am hl186_0
               clear hi186_0 hl186_0
               have HR186_3 := am hi186_3
               have HC186_3 := am hl186_3
               clear hi186_3 hl186_3
               replace p186 := eq_true p186
               replace q186 := eq_true q186
               have p187 : 0 ≤ (x3_1 : Int) := of_decide_eq_true (by first | (with_reducible assumption) | assumption)
               have q187 : x3_1 < (l0.length : Int) := of_decide_eq_true (by first | (with_reducible assumption) | assumption)
               obtain ⟨ad187, A187_0, c187_0, A187_3, c187_3, e187, hx187_0, hx187_1, hx187_2, hx187_3, hl187_0, hi187_0, hl187_3, hi187_3⟩ := at_T37 HR0.out x3_1 p187 q187
               obtain rfl : ad186 = ad187 := (by injection e187)
               have HR187_0 := am hi187_0
               have HC187_0 := am hl187_0
               clear hi187_0 hl187_0
               have HR187_3 := am hi187_3
               have HC187_3 := am hl187_3
               clear hi187_3 hl187_3
               replace p187 := eq_true p187
               replace q187 := eq_true q187
               have ea_ := Option.some.inj (hx186_0.symm.trans hx187_0)
               injection ea_ with ea_ en_ ec_
               subst ea_
               subst ec_
               clear en_
               have ea_ := Option.some.inj (hx186_3.symm.trans hx187_3)
               injection ea_ with ea_ en_ ec_
               subst ea_
               subst ec_
               clear en_
               have p188 : 0 ≤ (x4_3 : Int) := of_decide_eq_true (by first | (with_reducible assumption) | assumption)
               have q188 : x4_3 < (((rd_T37 l0 x3_1).f0).length : Int) := of_decide_eq_true (by first | (with_reducible assumption) | assumption)
               obtain ⟨ad188, A188_5, c188_5, e188, hx188_0, hx188_1, hx188_2, hx188_3, hx188_4, hx188_5, hx188_6, hx188_7, hl188_5, hi188_5⟩ := at_T55 HR187_0.out x4_3 p188 q188
               cases e188
               have HR188_5 := am hi188_5
               have HC188_5 := am hl188_5
               clear hi188_5 hl188_5
               replace p188 := eq_true p188
               replace q188 := eq_true q188
               go_wp2
               go_ret
               exact ⟨by first | rfl | (simp; done) | (simp [*]; done), by repeat (first | exact Drawn0.refl _ | apply Drawn0.step)⟩
              ·rw [if_neg c12] at H
               have c12b0 : decide (20 < (((rd_T55 ((rd_T37 l0 x3_1).f0) x4_3).f5).length : Int)) = false := decide_eq_false c12
               have c12b1 : decide (20 < ((rd_T55 ((rd_T37 l0 x3_1).f0) x4_3).f5).length) = false := decide_eq_false (by omega)
               clear c12
               have H' := am H
               clear H
               have p186 : 0 ≤ (x3_1 : Int) := of_decide_eq_true (by first | (with_reducible assumption) | assumption)
               have q186 : x3_1 < (l0.length : Int) := of_decide_eq_true (by first | (with_reducible assumption) | assumption)
               obtain ⟨ad186, A186_0, c186_0, A186_3, c186_3, e186, hx186_0, hx186_1, hx186_2, hx186_3, hl186_0, hi186_0, hl186_3, hi186_3⟩ := at_T37 HR0.out x3_1 p186 q186
               cases e186
               have HR186_0 := am hi186_0
               have HC186_0 := am hl186_0
               clear hi186_0 hl186_0
               have HR186_3 := am hi186_3
               have HC186_3 := am hl186_3
               clear hi186_3 hl186_3
               replace p186 := eq_true p186
               replace q186 := eq_true q186
               have p187 : 0 ≤ (x3_1 : Int) := of_decide_eq_true (by first | (with_reducible assumption) | assumption)
               have q187 : x3_1 < (l0.length : Int) := of_decide_eq_true (by first | (with_reducible assumption) | assumption)
               obtain ⟨ad187, A187_0, c187_0, A187_3, c187_3, e187, hx187_0, hx187_1, hx187_2, hx187_3, hl187_0, hi187_0, hl187_3, hi187_3⟩ := at_T37 HR0.out x3_1 p187 q187
               obtain rfl : ad186 = ad187 := (by injection e187)
               have HR187_0 := am hi187_0
               have HC187_0 := am hl187_0
               clear hi187_0 hl187_0
               have HR187_3 := am hi187_3
               have HC187_3 := am hl187_3
               clear hi187_3 hl187_3
               replace p187 := eq_true p187
               replace q187 := eq_true q187
               have ea_ := Option.some.inj (hx186_0.symm.trans hx187_0)
               injection ea_ with ea_ en_ ec_
               subst ea_
               subst ec_
               clear en_
               have ea_ := Option.some.inj (hx186_3.symm.trans hx187_3)
               injection ea_ with ea_ en_ ec_
               subst ea_
               subst ec_
               clear en_
               have p188 : 0 ≤ (x4_3 : Int) := of_decide_eq_true (by first | (with_reducible assumption) | assumption)
               have q188 : x4_3 < (((rd_T37 l0 x3_1).f0).length : Int) := of_decide_eq_true (by first | (with_reducible assumption) | assumption)
               obtain ⟨ad188, A188_5, c188_5, e188, hx188_0, hx188_1, hx188_2, hx188_3, hx188_4, hx188_5, hx188_6, hx188_7, hl188_5, hi188_5⟩ := at_T55 HR187_0.out x4_3 p188 q188
               cases e188
               have HR188_5 := am hi188_5
               have HC188_5 := am hl188_5
               clear hi188_5 hl188_5
               replace p188 := eq_true p188
               replace q188 := eq_true q188
               go_wp2
               go_roundg k3
               case measure => have := HK1.out; have := HJ3.out; have := HK3.out; omega
               case rel => exact ⟨(wrap64 (x4_3 + 1)), (by first | rfl | (simp; done) | (simp [*]; done) | (have := TNA.out; unfold wrap64; congr 1; omega) | (unfold wrap64; omega)), H', ⟨by have := HK1.out; have := HJ3.out; have := HK3.out; omega⟩, by repeat (first | exact Drawn0.refl _ | apply Drawn0.step)⟩
             ·rw [if_neg c11] at H
              exact absurd H (by simp)
            ·rw [if_neg c10] at H
             have c10b0 : decide (x4_3 < (((rd_T37 l0 x3_1).f0).length : Int)) = false := decide_eq_false c10
             clear c10
             have H' := am H
             clear H
             have p186 : 0 ≤ (x3_1 : Int) := of_decide_eq_true (by first | (with_reducible assumption) | assumption)
             have q186 : x3_1 < (l0.length : Int) := of_decide_eq_true (by first | (with_reducible assumption) | assumption)
             obtain ⟨ad186, A186_0, c186_0, A186_3, c186_3, e186, hx186_0, hx186_1, hx186_2, hx186_3, hl186_0, hi186_0, hl186_3, hi186_3⟩ := at_T37 HR0.out x3_1 p186 q186
             cases e186
             have HR186_0 := am hi186_0
             have HC186_0 := am hl186_0
             clear hi186_0 hl186_0
             have HR186_3 := am hi186_3
             have HC186_3 := am hl186_3
             clear hi186_3 hl186_3
             replace p186 := eq_true p186
             replace q186 := eq_true q186
             go_wp2
             go_roundg k3
             case measure => have := HK1.out; have := HJ3.out; have := HK3.out; omega
             case rel => exact ⟨(wrap64 (x3_1 + 1)), (by first | rfl | (simp; done) | (simp [*]; done) | (have := TNA.out; unfold wrap64; congr 1; omega) | (unfold wrap64; omega)), H', ⟨by have := HK1.out; have := HJ3.out; have := HK3.out; omega⟩, by repeat (first | exact Drawn0.refl _ | apply Drawn0.step)⟩
           ·rw [if_neg c9] at H
            exact absurd H (by simp)
          ·rw [if_neg c8] at H
           exact absurd H (by simp)
    ·rw [if_neg c3] at H
     have c3b0 : decide (x3_1 < (l0.length : Int)) = false := decide_eq_false c3
     clear c3
     obtain rfl := Option.some.inj H
     go_wp2
     go_ret
     exact ⟨by first | rfl | (simp; done) | (simp [*]; done), by repeat (first | exact Drawn0.refl _ | apply Drawn0.step)⟩
end Go.Proofs.YtbefbhghmommhaaGreatDoor.MWo
