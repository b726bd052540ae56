/- Texts of this claim, laid together by a program (wip/g/merge3.py): HRa. -/
import Derived.Test.YtbefbhghmommhaaGreatDoorZWa15
set_option linter.unusedVariables false
set_option linter.unusedSimpArgs false
set_option maxRecDepth 100000
namespace Go.Proofs.YtbefbhghmommhaaGreatDoor.MWo
open Go.RowKit Go.Proofs.YtbefbhghmommhaaGreatDoorW.PrintWords Go.Proofs.YtbefbhghmommhaaGreatDoorW.PrintLast Go.Proofs.YtbefbhghmommhaaGreatDoorW.PrintMore Go.Proofs.YtbefbhghmommhaaGreatDoor.Evl
theorem rsynced_walk (A0 : Option Addr) (c0 : Nat) (l : List S55) (a1 : Bool) (a2 : Int) (A3 : Option Addr) (c3 : Nat) (l3 : List Int) (w : World) (hr0 : Kd.C k55 w A0 l.length l) (hc0 : l.length ≤ c0) (hr3 : Kd.C (Kd.int .i64) w A3 l3.length l3) (hc3 : l3.length ≤ c3) (hl : l.length ≤ 1000) :
  Calls Tryz.prog 28 #[.agg #[.slice A0 l.length c0, .bool a1, .int .i64 a2, .slice A3 l3.length c3]] w fun e w' => ∃ A c, e = .returned (.slice A (syn l).length c) ∧ (syn l).length ≤ c ∧ Kd.C k55 w' A (syn l).length (syn l) ∧ Below w.heap.size w w' := by
 obtain ⟨k, hk⟩ := (rsynced_evl (l := l) (by omega) a1 a2 l3).some_
 refine (dr26_synced.calls k (fun k_ => k_ < w.heap.size) A0 c0 l a1 a2 A3 c3 l3 _ w (Kd.V_mk hc0 (Kd.C_F k55_heap hr0)) hr3 hc3 hk).mono ?_
 rintro e w' ⟨v, rfl, ho, hb⟩
 obtain ⟨A, c, rfl, hc, hC⟩ := Kd.N_reads ho
 exact ⟨A, c, rfl, hc, hC, hb⟩
set_option maxHeartbeats 4000000 in
theorem ragree_walk (A0 : Option Addr) (c0 : Nat) (l : List S55) (a1 : Bool) (a2 : Int) (A3 : Option Addr) (c3 : Nat) (l3 : List Int) (w : World) (hr0 : Kd.C k55 w A0 l.length l) (hc0 : l.length ≤ c0) (hr3 : Kd.C (Kd.int .i64) w A3 l3.length l3) (hc3 : l3.length ≤ c3) (hl : l.length ≤ 1000) (hx : ∀ x ∈ l, x.f5.length ≤ 1000000) :
  Calls Tryz.prog 21 #[.agg #[.slice A0 l.length c0, .bool a1, .int .i64 a2, .slice A3 l3.length c3]] w fun e w' => e = .returned (.bool (agreeB l)) ∧ Below w.heap.size w w' := by
 have HX := am (show ∀ x ∈ syn l, x.f5.length ≤ 1000000 from fun x h => hx x (List.mem_filter.1 h).1)
 have hs := rsynced_walk A0 c0 l a1 a2 A3 c3 l3
 have kb := below_alloc (Below.refl w.heap.size w) (.cells #[.slice A0 l.length c0, .bool a1, .int .i64 a2, .slice A3 l3.length c3] 37)
 have HB := am kb
 have hs1 := hs _ (Kd.C_below hr0 kb) hc0 (Kd.C_below hr3 kb) hc3 hl
 have HLS := am (Nat.le_trans (syn_len l) hl)
 clear hs kb hr0 hc0 hr3 hc3 hl hx
 have HAG := am (show agreeB l = match syn l with | [] => true | y :: t => !((y :: t).any (unlike y)) from rfl)
 generalize agreeB l = r at HAG ⊢
 generalize syn l = s at hs1 HAG HX HLS
 go_enter Tryz.func21, Tryz.ntmps21
 go_wp2_with fail
 refine hs1.mono ?_
 rintro e w1 ⟨A, c, rfl, hc, hC⟩
 have HB1 := am (below_step HB.out hC.2)
 have HC := am hC.1
 clear hC hs1 hc HB
 go_wp2_with fail
 cases s with
 | nil =>
  refine wp_loop_rounds 1 ?_
  rw [rounds_succ]
  go_wp2_with fail
  go_ret
  refine ⟨?_, HB1.out⟩
  rw [HAG.out]
  rfl
 | cons y t =>
  obtain ⟨s, hs⟩ : ∃ s, y :: t = s := ⟨_, rfl⟩
  have HR : Aside0 (r = !(s.any (unlike y))) := ⟨by rw [HAG.out, ← hs]⟩
  have HY : Aside0 (∃ h : 0 < s.length, s[0] = y) := ⟨by subst hs; exact ⟨by simp, rfl⟩⟩
  clear HAG
  rw [hs] at HX HC HLS ⊢
  clear hs
  go_loopg [4] (s.length + 1) (fun kq v4 w' => ∃ i : Int, v4 = .int .i64 i ∧ Aside0 (kq + i = s.length + 2 ∧ 1 ≤ i) ∧ Aside0 (Below w.heap.size w w' ∧ Below w1.heap.size w1 w') ∧ Aside0 (∀ (j : Nat) (h : j < s.length), (j : Int) < i → unlike y s[j] = false))
  case atStart => exact ⟨1, rfl, ⟨by omega⟩, ⟨HB1.out, Below.refl _ _⟩, ⟨fun j h hj => by obtain rfl : j = 0 := (by omega); rw [HY.out.2]; exact unlike_self y⟩⟩
  case round =>
   obtain ⟨i, rfl, HK, HBB, HN⟩ := hrel
   by_cases hi : i < (s.length : Int)
   ·have h0 := HK.out.2
    obtain ⟨ad, A5, c5, e, _, _, _, _, x4, x5, x6, _, hc5, hC5⟩ := at_T55 (Kd.C_below HC.out HBB.out.2) i (by omega) hi
    obtain ⟨ad', B5, d5, e', _, _, _, _, y4, y5, y6, _, hd5, hD5⟩ := at_T55 (Kd.C_below HC.out HBB.out.2) 0 (by omega) (by omega)
    cases e
    cases e'
    rw [rd_n (by omega) hi] at x4 x5 x6 hc5 hC5
    rw [rd_n (by omega) (by omega)] at y4 y5 y6 hd5 hD5
    have hy0 : s[(0 : Int).toNat]'(by have := HY.out.1; exact this) = y := HY.out.2
    rw [hy0] at y4 y5 y6 hd5 hD5
    have hxm := HX.out _ (List.getElem_mem (show i.toNat < s.length by omega))
    have hxn := HN.out
    obtain ⟨x, hxx⟩ : ∃ x, s[i.toNat]'(by omega) = x := ⟨_, rfl⟩
    rw [hxx] at x4 x5 x6 hc5 hC5 hxm
    have HXX := am hxx
    clear hxx hy0 hxn
    have y4' : wr.cell? ⟨ad.block, ad.off + 4, none⟩ = some (.int .i64 y.f4) := by simpa [Addr.add] using y4
    have y6' : wr.cell? ⟨ad.block, ad.off + 6, none⟩ = some (.int .i64 y.f6) := by simpa [Addr.add] using y6
    have y5' : wr.cell? ⟨ad.block, ad.off + 5, none⟩ = some (.slice B5 y.f5.length d5) := by simpa [Addr.add] using y5
    clear y4 y5 y6
    have HC5 := am hC5
    have HD5 := am hD5
    have HH5 := am (And.intro hc5 (And.intro hd5 hxm))
    clear hC5 hD5 hc5 hd5 hxm
    have hlt : decide (i < (s.length : Int)) = true := decide_eq_true hi
    have p0 := eq_true (show (0 : Int) ≤ i by omega)
    have p1 := eq_true hi
    have p2 := eq_true (show (0 : Int) < (s.length : Int) by omega)
    have p3 := eq_true (show 0 < s.length by omega)
    have hw1 : wrap64 (i + 1) = i + 1 := by have := HLS.out; unfold wrap64; omega
    have HU : Aside0 (unlike y x = if x.f4 = y.f4 then (if x.f6 = y.f6 then !decide (x.f5 = y.f5) else true) else true) := ⟨rfl⟩
    have HBAD : Aside0 (unlike y x = true → r = false) := ⟨fun h => by
     have : s.any (unlike y) = true := List.any_eq_true.2 ⟨_, List.getElem_mem (show i.toNat < s.length by omega), by rw [HXX.out]; exact h⟩
     rw [HR.out, this]; rfl⟩
    cases gk with
    | zero => exact absurd HK.out (by omega)
    | succ k1 =>
    by_cases h4 : x.f4 = y.f4
    ·have b4 : (x.f4 == y.f4) = true := by simp [h4]
     have n4 : (x.f4 != y.f4) = false := by simp [h4]
     by_cases h6 : x.f6 = y.f6
     ·have b6 : (x.f6 == y.f6) = true := by simp [h6]
      have n6 : (x.f6 != y.f6) = false := by simp [h6]
      obtain ⟨ks, hks⟩ := (rsame_evl (l := x.f5) (m := y.f5) HH5.out.2.2).some_
      have HU2 : Aside0 (unlike y x = !decide (x.f5 = y.f5)) := ⟨by rw [HU.out, if_pos h4, if_pos h6]⟩
      generalize decide (x.f5 = y.f5) = q at hks HU2
      have HKS := am hks
      clear h4 h6 hks
      go_upto_region 5 with fail
      have dd0 : wr.drew.cell? ⟨(ad.add (i.toNat * 8)).block, (ad.add (i.toNat * 8)).off + 4, none⟩ = some (.int .i64 x.f4) := x4
      have dd1 : wr.drew.cell? ⟨(ad.add (i.toNat * 8)).block, (ad.add (i.toNat * 8)).off + 6, none⟩ = some (.int .i64 x.f6) := x6
      have dd2 : wr.drew.cell? ⟨(ad.add (i.toNat * 8)).block, (ad.add (i.toNat * 8)).off + 5, none⟩ = some (.slice A5 x.f5.length c5) := x5
      have dd3 : wr.drew.cell? ⟨ad.block, ad.off + 4, none⟩ = some (.int .i64 y.f4) := y4'
      have dd4 : wr.drew.cell? ⟨ad.block, ad.off + 6, none⟩ = some (.int .i64 y.f6) := y6'
      have dd5 : wr.drew.cell? ⟨ad.block, ad.off + 5, none⟩ = some (.slice B5 y.f5.length d5) := y5'
      refine start_ (n := 35) (S := fun w' => w'.cell? ⟨(ad.add (i.toNat * 8)).block, (ad.add (i.toNat * 8)).off + 4, none⟩ = some (.int .i64 x.f4) ∧ w'.cell? ⟨(ad.add (i.toNat * 8)).block, (ad.add (i.toNat * 8)).off + 6, none⟩ = some (.int .i64 x.f6) ∧ w'.cell? ⟨(ad.add (i.toNat * 8)).block, (ad.add (i.toNat * 8)).off + 5, none⟩ = some (.slice A5 x.f5.length c5) ∧ w'.cell? ⟨ad.block, ad.off + 4, none⟩ = some (.int .i64 y.f4) ∧ w'.cell? ⟨ad.block, ad.off + 6, none⟩ = some (.int .i64 y.f6) ∧ w'.cell? ⟨ad.block, ad.off + 5, none⟩ = some (.slice B5 y.f5.length d5)) (ds := []) #[false, false, false, false, false, false, false, false, false, false, false, false, false, false, false, false, false, false, false, false, false, false, false, false, false, false, false, false, false, false, false, false, false, false, false] (by kernel_rfl) rfl rfl ⟨dd0, dd1, dd2, dd3, dd4, dd5⟩ (fun hHeld => ?_)
      refine pure_ (i := 0) (N := some 13) (v := ?_) (a' := ?_) #[true, false, false, false, false, false, false, false, false, false, false, false, false, false, false, false, false, false, false, false, false, false, false, false, false, false, false, false, false, false, false, false, false, false, false] rfl rfl (by kernel_rfl) (fun _ _ _ h => h) (Or.inl ⟨by rfl, ?_⟩) ?_ ?_
      rotate_left
      ·intro w'
       go_simp
       with_reducible rfl
      rotate_left
      ·simp only [Act.put, sAa, sBb, sCc, i64_w, i32_w]
       rfl
      refine pure_ (i := 1) (N := some 14) (v := ?_) (a' := ?_) #[true, true, false, false, false, false, false, false, false, false, false, false, false, false, false, false, false, false, false, false, false, false, false, false, false, false, false, false, false, false, false, false, false, false, false] rfl rfl (by kernel_rfl) (fun _ _ _ h => h) (Or.inl ⟨by rfl, ?_⟩) ?_ ?_
      rotate_left
      ·intro w'
       go_simp
       with_reducible rfl
      rotate_left
      ·simp only [Act.put, sAa, sBb, sCc, i64_w, i32_w]
       rfl
      refine pure_ (i := 2) (N := some 15) (v := ?_) (a' := ?_) #[true, true, true, false, false, false, false, false, false, false, false, false, false, false, false, false, false, false, false, false, false, false, false, false, false, false, false, false, false, false, false, false, false, false, false] rfl rfl (by kernel_rfl) (fun _ _ _ h => h) (Or.inl ⟨by rfl, ?_⟩) ?_ ?_
      rotate_left
      ·intro w'
       go_simp
       with_reducible rfl
      rotate_left
      ·simp only [Act.put, sAa, sBb, sCc, i64_w, i32_w]
       rfl
      refine pure_ (i := 3) (N := some 16) (v := ?_) (a' := ?_) #[true, true, true, true, false, false, false, false, false, false, false, false, false, false, false, false, false, false, false, false, false, false, false, false, false, false, false, false, false, false, false, false, false, false, false] rfl rfl (by kernel_rfl) (fun _ _ _ h => h) (Or.inl ⟨by rfl, ?_⟩) ?_ ?_
      rotate_left
      ·intro w'
       go_simp
       with_reducible rfl
      rotate_left
      ·simp only [Act.put, sAa, sBb, sCc, i64_w, i32_w]
       rfl
      refine pure_ (i := 5) (N := some 18) (v := ?_) (a' := ?_) #[true, true, true, true, false, true, false, false, false, false, false, false, false, false, false, false, false, false, false, false, false, false, false, false, false, false, false, false, false, false, false, false, false, false, false] rfl rfl (by kernel_rfl) (fun _ _ _ h => h) (Or.inl ⟨by rfl, ?_⟩) ?_ ?_
      rotate_left
      ·intro w'
       go_simp
       with_reducible rfl
      rotate_left
      ·simp only [Act.put, sAa, sBb, sCc, i64_w, i32_w]
       rfl
      refine pure_ (i := 6) (N := some 19) (v := ?_) (a' := ?_) #[true, true, true, true, false, true, true, false, false, false, false, false, false, false, false, false, false, false, false, false, false, false, false, false, false, false, false, false, false, false, false, false, false, false, false] rfl rfl (by kernel_rfl) (fun _ _ _ h => h) (Or.inl ⟨by rfl, ?_⟩) ?_ ?_
      rotate_left
      ·intro w'
       go_simp
       with_reducible rfl
      rotate_left
      ·simp only [Act.put, sAa, sBb, sCc, i64_w, i32_w]
       rfl
      refine pure_ (i := 7) (N := some 20) (v := ?_) (a' := ?_) #[true, true, true, true, false, true, true, true, false, false, false, false, false, false, false, false, false, false, false, false, false, false, false, false, false, false, false, false, false, false, false, false, false, false, false] rfl rfl (by kernel_rfl) (fun _ _ _ h => h) (Or.inl ⟨by rfl, ?_⟩) ?_ ?_
      rotate_left
      ·intro w'
       go_simp
       with_reducible rfl
      rotate_left
      ·simp only [Act.put, sAa, sBb, sCc, i64_w, i32_w]
       rfl
      refine take_ (i := 4) (N := some 17) (v := ?_) (a' := ?_) #[true, true, true, true, true, true, true, true, false, false, false, false, false, false, false, false, false, false, false, false, false, false, false, false, false, false, false, false, false, false, false, false, false, false, false] rfl rfl (by kernel_rfl) (fun _ _ _ h => h) (Or.inl ⟨by rfl, ?_⟩) hHeld ?_ ?_
      rotate_left
      ·rintro w' ⟨s0, s1, s2, s3, s4, s5⟩
       go_simp
       with_reducible rfl
      rotate_left
      ·simp only [Act.put, sAa, sBb, sCc, i64_w, i32_w]
       rfl
      refine take_ (i := 8) (N := some 21) (v := ?_) (a' := ?_) #[true, true, true, true, true, true, true, true, true, false, false, false, false, false, false, false, false, false, false, false, false, false, false, false, false, false, false, false, false, false, false, false, false, false, false] rfl rfl (by kernel_rfl) (fun _ _ _ h => h) (Or.inl ⟨by rfl, ?_⟩) hHeld ?_ ?_
      rotate_left
      ·rintro w' ⟨s0, s1, s2, s3, s4, s5⟩
       go_simp
       with_reducible rfl
      rotate_left
      ·simp only [Act.put, sAa, sBb, sCc, i64_w, i32_w]
       rfl
      refine pure_ (i := 9) (N := some 22) (v := ?_) (a' := ?_) #[true, true, true, true, true, true, true, true, true, true, false, false, false, false, false, false, false, false, false, false, false, false, false, false, false, false, false, false, false, false, false, false, false, false, false] rfl rfl (by kernel_rfl) (fun _ _ _ h => h) (Or.inl ⟨by rfl, ?_⟩) ?_ ?_
      rotate_left
      ·intro w'
       go_simp
       with_reducible rfl
      rotate_left
      ·simp only [Act.put, sAa, sBb, sCc, i64_w, i32_w]
       rfl
      refine pure_ (i := 10) (N := some 23) (v := ?_) (a' := ?_) #[true, true, true, true, true, true, true, true, true, true, true, false, false, false, false, false, false, false, false, false, false, false, false, false, false, false, false, false, false, false, false, false, false, false, false] rfl rfl (by kernel_rfl) (fun _ _ _ h => h) (Or.inl ⟨by rfl, ?_⟩) ?_ ?_
      rotate_left
      ·intro w'
       go_simp
       with_reducible rfl
      rotate_left
      ·simp only [Act.put, sAa, sBb, sCc, i64_w, i32_w]
       rfl
      refine pure_ (i := 11) (N := some 24) (v := ?_) (a' := ?_) #[true, true, true, true, true, true, true, true, true, true, true, true, false, false, false, false, false, false, false, false, false, false, false, false, false, false, false, false, false, false, false, false, false, false, false] rfl rfl (by kernel_rfl) (fun _ _ _ h => h) (Or.inl ⟨by rfl, ?_⟩) ?_ ?_
      rotate_left
      ·intro w'
       go_simp
       with_reducible rfl
      rotate_left
      ·simp only [Act.put, sAa, sBb, sCc, i64_w, i32_w]
       rfl
      refine pure_ (i := 12) (N := some 25) (v := ?_) (a' := ?_) #[true, true, true, true, true, true, true, true, true, true, true, true, true, false, false, false, false, false, false, false, false, false, false, false, false, false, false, false, false, false, false, false, false, false, false] rfl rfl (by kernel_rfl) (fun _ _ _ h => h) (Or.inl ⟨by rfl, ?_⟩) ?_ ?_
      rotate_left
      ·intro w'
       go_simp
       with_reducible rfl
      rotate_left
      ·simp only [Act.put, sAa, sBb, sCc, i64_w, i32_w]
       rfl
      refine pure_ (i := 13) (N := some 26) (v := ?_) (a' := ?_) #[true, true, true, true, true, true, true, true, true, true, true, true, true, true, false, false, false, false, false, false, false, false, false, false, false, false, false, false, false, false, false, false, false, false, false] rfl rfl (by kernel_rfl) (fun _ _ _ h => h) (Or.inl ⟨by rfl, ?_⟩) ?_ ?_
      rotate_left
      ·intro w'
       go_simp
       with_reducible rfl
      rotate_left
      ·simp only [Act.put, sAa, sBb, sCc, i64_w, i32_w]
       rfl
      refine pure_ (i := 14) (N := some 27) (v := ?_) (a' := ?_) #[true, true, true, true, true, true, true, true, true, true, true, true, true, true, true, false, false, false, false, false, false, false, false, false, false, false, false, false, false, false, false, false, false, false, false] rfl rfl (by kernel_rfl) (fun _ _ _ h => h) (Or.inl ⟨by rfl, ?_⟩) ?_ ?_
      rotate_left
      ·intro w'
       go_simp
       with_reducible rfl
      rotate_left
      ·simp only [Act.put, sAa, sBb, sCc, i64_w, i32_w]
       rfl
      refine pure_ (i := 16) (N := some 29) (v := ?_) (a' := ?_) #[true, true, true, true, true, true, true, true, true, true, true, true, true, true, true, false, true, false, false, false, false, false, false, false, false, false, false, false, false, false, false, false, false, false, false] rfl rfl (by kernel_rfl) (fun _ _ _ h => h) (Or.inl ⟨by rfl, ?_⟩) ?_ ?_
      rotate_left
      ·intro w'
       go_simp
       with_reducible rfl
      rotate_left
      ·simp only [Act.put, sAa, sBb, sCc, i64_w, i32_w]
       rfl
      refine pure_ (i := 17) (N := some 30) (v := ?_) (a' := ?_) #[true, true, true, true, true, true, true, true, true, true, true, true, true, true, true, false, true, true, false, false, false, false, false, false, false, false, false, false, false, false, false, false, false, false, false] rfl rfl (by kernel_rfl) (fun _ _ _ h => h) (Or.inl ⟨by rfl, ?_⟩) ?_ ?_
      rotate_left
      ·intro w'
       go_simp
       with_reducible rfl
      rotate_left
      ·simp only [Act.put, sAa, sBb, sCc, i64_w, i32_w]
       rfl
      refine pure_ (i := 18) (N := some 31) (v := ?_) (a' := ?_) #[true, true, true, true, true, true, true, true, true, true, true, true, true, true, true, false, true, true, true, false, false, false, false, false, false, false, false, false, false, false, false, false, false, false, false] rfl rfl (by kernel_rfl) (fun _ _ _ h => h) (Or.inl ⟨by rfl, ?_⟩) ?_ ?_
      rotate_left
      ·intro w'
       go_simp
       with_reducible rfl
      rotate_left
      ·simp only [Act.put, sAa, sBb, sCc, i64_w, i32_w]
       rfl
      refine take_ (i := 15) (N := some 28) (v := ?_) (a' := ?_) #[true, true, true, true, true, true, true, true, true, true, true, true, true, true, true, true, true, true, true, false, false, false, false, false, false, false, false, false, false, false, false, false, false, false, false] rfl rfl (by kernel_rfl) (fun _ _ _ h => h) (Or.inl ⟨by rfl, ?_⟩) hHeld ?_ ?_
      rotate_left
      ·rintro w' ⟨s0, s1, s2, s3, s4, s5⟩
       go_simp
       with_reducible rfl
      rotate_left
      ·simp only [Act.put, sAa, sBb, sCc, i64_w, i32_w]
       rfl
      refine take_ (i := 19) (N := some 32) (v := ?_) (a' := ?_) #[true, true, true, true, true, true, true, true, true, true, true, true, true, true, true, true, true, true, true, true, false, false, false, false, false, false, false, false, false, false, false, false, false, false, false] rfl rfl (by kernel_rfl) (fun _ _ _ h => h) (Or.inl ⟨by rfl, ?_⟩) hHeld ?_ ?_
      rotate_left
      ·rintro w' ⟨s0, s1, s2, s3, s4, s5⟩
       go_simp
       with_reducible rfl
      rotate_left
      ·simp only [Act.put, sAa, sBb, sCc, i64_w, i32_w]
       rfl
      refine pure_ (i := 20) (N := some 33) (v := ?_) (a' := ?_) #[true, true, true, true, true, true, true, true, true, true, true, true, true, true, true, true, true, true, true, true, true, false, false, false, false, false, false, false, false, false, false, false, false, false, false] rfl rfl (by kernel_rfl) (fun _ _ _ h => h) (Or.inl ⟨by rfl, ?_⟩) ?_ ?_
      rotate_left
      ·intro w'
       go_simp
       with_reducible rfl
      rotate_left
      ·simp only [Act.put, sAa, sBb, sCc, i64_w, i32_w]
       rfl
      refine pure_ (i := 21) (N := some 34) (v := ?_) (a' := ?_) #[true, true, true, true, true, true, true, true, true, true, true, true, true, true, true, true, true, true, true, true, true, true, false, false, false, false, false, false, false, false, false, false, false, false, false] rfl rfl (by kernel_rfl) (fun _ _ _ h => h) (Or.inl ⟨by rfl, ?_⟩) ?_ ?_
      rotate_left
      ·intro w'
       go_simp
       with_reducible rfl
      rotate_left
      ·simp only [Act.put, sAa, sBb, sCc, i64_w, i32_w]
       rfl
      refine pure_ (i := 22) (N := some 35) (v := ?_) (a' := ?_) #[true, true, true, true, true, true, true, true, true, true, true, true, true, true, true, true, true, true, true, true, true, true, true, false, false, false, false, false, false, false, false, false, false, false, false] rfl rfl (by kernel_rfl) (fun _ _ _ h => h) (Or.inl ⟨by rfl, ?_⟩) ?_ ?_
      rotate_left
      ·intro w'
       go_simp
       with_reducible rfl
      rotate_left
      ·simp only [Act.put, sAa, sBb, sCc, i64_w, i32_w]
       rfl
      refine pure_ (i := 23) (N := some 36) (v := ?_) (a' := ?_) #[true, true, true, true, true, true, true, true, true, true, true, true, true, true, true, true, true, true, true, true, true, true, true, true, false, false, false, false, false, false, false, false, false, false, false] rfl rfl (by kernel_rfl) (fun _ _ _ h => h) (Or.inl ⟨by rfl, ?_⟩) ?_ ?_
      rotate_left
      ·intro w'
       go_simp
       with_reducible rfl
      rotate_left
      ·simp only [Act.put, sAa, sBb, sCc, i64_w, i32_w]
       rfl
      refine pure_ (i := 24) (N := some 37) (v := ?_) (a' := ?_) #[true, true, true, true, true, true, true, true, true, true, true, true, true, true, true, true, true, true, true, true, true, true, true, true, true, false, false, false, false, false, false, false, false, false, false] rfl rfl (by kernel_rfl) (fun _ _ _ h => h) (Or.inl ⟨by rfl, ?_⟩) ?_ ?_
      rotate_left
      ·intro w'
       go_simp
       with_reducible rfl
      rotate_left
      ·simp only [Act.put, sAa, sBb, sCc, i64_w, i32_w]
       rfl
      refine pure_ (i := 25) (N := some 38) (v := ?_) (a' := ?_) #[true, true, true, true, true, true, true, true, true, true, true, true, true, true, true, true, true, true, true, true, true, true, true, true, true, true, false, false, false, false, false, false, false, false, false] rfl rfl (by kernel_rfl) (fun _ _ _ h => h) (Or.inl ⟨by rfl, ?_⟩) ?_ ?_
      rotate_left
      ·intro w'
       go_simp
       with_reducible rfl
      rotate_left
      ·simp only [Act.put, sAa, sBb, sCc, i64_w, i32_w]
       rfl
      refine pure_ (i := 26) (N := some 39) (v := ?_) (a' := ?_) #[true, true, true, true, true, true, true, true, true, true, true, true, true, true, true, true, true, true, true, true, true, true, true, true, true, true, true, false, false, false, false, false, false, false, false] rfl rfl (by kernel_rfl) (fun _ _ _ h => h) (Or.inl ⟨by rfl, ?_⟩) ?_ ?_
      rotate_left
      ·intro w'
       go_simp
       with_reducible rfl
      rotate_left
      ·simp only [Act.put, sAa, sBb, sCc, i64_w, i32_w]
       rfl
      refine pure_ (i := 28) (N := some 41) (v := ?_) (a' := ?_) #[true, true, true, true, true, true, true, true, true, true, true, true, true, true, true, true, true, true, true, true, true, true, true, true, true, true, true, false, true, false, false, false, false, false, false] rfl rfl (by kernel_rfl) (fun _ _ _ h => h) (Or.inl ⟨by rfl, ?_⟩) ?_ ?_
      rotate_left
      ·intro w'
       go_simp
       with_reducible rfl
      rotate_left
      ·simp only [Act.put, sAa, sBb, sCc, i64_w, i32_w]
       rfl
      refine pure_ (i := 29) (N := some 42) (v := ?_) (a' := ?_) #[true, true, true, true, true, true, true, true, true, true, true, true, true, true, true, true, true, true, true, true, true, true, true, true, true, true, true, false, true, true, false, false, false, false, false] rfl rfl (by kernel_rfl) (fun _ _ _ h => h) (Or.inl ⟨by rfl, ?_⟩) ?_ ?_
      rotate_left
      ·intro w'
       go_simp
       with_reducible rfl
      rotate_left
      ·simp only [Act.put, sAa, sBb, sCc, i64_w, i32_w]
       rfl
      refine pure_ (i := 30) (N := some 43) (v := ?_) (a' := ?_) #[true, true, true, true, true, true, true, true, true, true, true, true, true, true, true, true, true, true, true, true, true, true, true, true, true, true, true, false, true, true, true, false, false, false, false] rfl rfl (by kernel_rfl) (fun _ _ _ h => h) (Or.inl ⟨by rfl, ?_⟩) ?_ ?_
      rotate_left
      ·intro w'
       go_simp
       with_reducible rfl
      rotate_left
      ·simp only [Act.put, sAa, sBb, sCc, i64_w, i32_w]
       rfl
      refine take_ (i := 27) (N := some 40) (v := ?_) (a' := ?_) #[true, true, true, true, true, true, true, true, true, true, true, true, true, true, true, true, true, true, true, true, true, true, true, true, true, true, true, true, true, true, true, false, false, false, false] rfl rfl (by kernel_rfl) (fun _ _ _ h => h) (Or.inl ⟨by rfl, ?_⟩) hHeld ?_ ?_
      rotate_left
      ·rintro w' ⟨s0, s1, s2, s3, s4, s5⟩
       go_simp
       with_reducible rfl
      rotate_left
      ·simp only [Act.put, sAa, sBb, sCc, i64_w, i32_w]
       rfl
      refine take_ (i := 31) (N := some 44) (v := ?_) (a' := ?_) #[true, true, true, true, true, true, true, true, true, true, true, true, true, true, true, true, true, true, true, true, true, true, true, true, true, true, true, true, true, true, true, true, false, false, false] rfl rfl (by kernel_rfl) (fun _ _ _ h => h) (Or.inl ⟨by rfl, ?_⟩) hHeld ?_ ?_
      rotate_left
      ·rintro w' ⟨s0, s1, s2, s3, s4, s5⟩
       go_simp
       with_reducible rfl
      rotate_left
      ·simp only [Act.put, sAa, sBb, sCc, i64_w, i32_w]
       rfl
      refine one_ (i := 32) (N := some 45) #[true, true, true, true, true, true, true, true, true, true, true, true, true, true, true, true, true, true, true, true, true, true, true, true, true, true, true, true, true, true, true, true, true, false, false] rfl rfl (by kernel_rfl) (by decide) (fun K hK => ?_)
      refine goes_ Tryz.func50 (by kernel_rfl) rfl #[.slice A5 x.f5.length c5, .slice B5 y.f5.length d5] (by rfl) rfl rfl (by simp only [List.map_toArray, List.map_cons, List.map_nil]; rfl) ?_
      with_reducible refine (dr1_SameInts.calls ks A5 c5 x.f5 B5 d5 y.f5 q _ (Kd.C_below HC5.out (Below.refl _ _).drew) HH5.out.1 (Kd.C_below HD5.out (Below.refl _ _).drew) HH5.out.2.1 HKS.out).mono ?_
      rintro e w3 ⟨rfl, hd3⟩
      have hb3 := hd3.below
      have HBE := am (below_step HBB.out.1.drew hb3)
      have HBF := am (below_step HBB.out.2.drew hb3)
      have z0 := (hb3.cell (c_lt dd0)).trans dd0
      have z1 := (hb3.cell (c_lt dd1)).trans dd1
      have z2 := (hb3.cell (c_lt dd2)).trans dd2
      have z3 := (hb3.cell (c_lt dd3)).trans dd3
      have z4 := (hb3.cell (c_lt dd4)).trans dd4
      have z5 := (hb3.cell (c_lt dd5)).trans dd5
      clear hb3 hd3
      refine ⟨_, rfl, ?_⟩
      refine hK.out _ _ ⟨z0, z1, z2, z3, z4, z5⟩ (fun hHeld => ?_)
      clear hK K
      refine norm_ (a' := ?_) ?_ ?_
      rotate_left
      ·show Act.put _ (some 45) _ = _
       simp only [Act.put, sAa, sBb, sCc, i64_w, i32_w]
       rfl
      refine pure_ (i := 33) (N := some 46) (v := ?_) (a' := ?_) #[true, true, true, true, true, true, true, true, true, true, true, true, true, true, true, true, true, true, true, true, true, true, true, true, true, true, true, true, true, true, true, true, true, true, false] rfl rfl (by kernel_rfl) (fun _ _ _ h => h) (Or.inl ⟨by rfl, ?_⟩) ?_ ?_
      rotate_left
      ·intro w'
       go_simp
       with_reducible rfl
      rotate_left
      ·simp only [Act.put, sAa, sBb, sCc, i64_w, i32_w]
       rfl
      refine pure_ (i := 34) (N := some 47) (v := ?_) (a' := ?_) #[true, true, true, true, true, true, true, true, true, true, true, true, true, true, true, true, true, true, true, true, true, true, true, true, true, true, true, true, true, true, true, true, true, true, true] rfl rfl (by kernel_rfl) (fun _ _ _ h => h) (Or.inl ⟨by rfl, ?_⟩) ?_ ?_
      rotate_left
      ·intro w'
       go_simp
       with_reducible rfl
      rotate_left
      ·simp only [Act.put, sAa, sBb, sCc, i64_w, i32_w]
       rfl
      refine done_ (by kernel_rfl) ?_
      cases q with
      | false =>
       go_wp2_with fail
       go_ret
       refine ⟨?_, HBE.out⟩
       rw [HBAD.out HU2.out]
       rfl
      | true =>
       go_wp2_with fail
       go_roundg k1
       case measure => have := HK.out; omega
       case rel =>
        refine ⟨i + 1, by rw [hw1], ⟨by have := HK.out; omega⟩, ⟨HBE.out, HBF.out⟩, ⟨fun j h hj => ?_⟩⟩
        by_cases e : j = i.toNat
        ·subst e; rw [HXX.out]; exact HU2.out
        ·exact HN.out j h (by omega)
     ·have b6 : (x.f6 == y.f6) = false := by simp [h6]
      have n6 : (x.f6 != y.f6) = true := by simp [h6]
      have HU2 : Aside0 (unlike y x = true) := ⟨by rw [HU.out, if_pos h4, if_neg h6]⟩
      clear h4 h6
      go_wp2_with fail
      go_quiet (fail)
      go_wp2_with fail
      go_ret
      refine ⟨?_, pw_below_drewN HBB.out.1 nq⟩
      rw [HBAD.out HU2.out]
      rfl
    ·have b4 : (x.f4 == y.f4) = false := by simp [h4]
     have n4 : (x.f4 != y.f4) = true := by simp [h4]
     have HU2 : Aside0 (unlike y x = true) := ⟨by rw [HU.out, if_neg h4]⟩
     clear h4
     go_wp2_with fail
     go_quiet (fail)
     go_wp2_with fail
     go_ret
     refine ⟨?_, pw_below_drewN HBB.out.1 nq⟩
     rw [HBAD.out HU2.out]
     rfl
   ·have hlt : decide (i < (s.length : Int)) = false := decide_eq_false hi
    go_wp2_with fail
    go_ret
    refine ⟨?_, HBB.out.1⟩
    have : s.any (unlike y) = false := List.any_eq_false.2 fun z hz => by
     obtain ⟨j, hj, rfl⟩ := List.mem_iff_getElem.1 hz
     rw [HN.out j hj (by omega)]
     decide
    rw [HR.out, this]
    rfl
end Go.Proofs.YtbefbhghmommhaaGreatDoor.MWo
