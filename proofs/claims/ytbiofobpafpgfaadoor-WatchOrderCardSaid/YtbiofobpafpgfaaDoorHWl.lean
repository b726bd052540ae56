/- WatchOrder, step by step. -/
import Derived.Test.YtbiofobpafpgfaaDoorHWh
import Derived.Test.YtbiofobpafpgfaaDoorMWox58
set_option linter.unusedVariables false
set_option linter.unusedSimpArgs false
set_option maxRecDepth 100000
namespace Go.Proofs.YtbiofobpafpgfaaDoor.MWo
open Go.RowKit Go.Proofs.YtbiofobpafpgfaaDoorW.PrintWords Go.Proofs.YtbiofobpafpgfaaDoorW.PrintLast Go.Proofs.YtbiofobpafpgfaaDoorW.PrintMore
/-- A message that is handed to a log. -/
structure Itm where
  f0 : Int
  f1 : Int
  f2 : Int
  f3 : List Int
def itk : Kd Itm where
  sz := 4
  E := []
  K := fun w x cs => ∃ A c, cs = [.int .i64 x.f0, .int .i64 x.f1, .int .i64 x.f2, .slice A x.f3.length c] ∧ x.f3.length ≤ c ∧ (Kd.int .u8).C w A x.f3.length x.f3
  M := fun _ _ _ _ _ => False
  K_len := by rintro w x cs ⟨_, _, rfl, _, _⟩; rfl
  K_one := by rintro w x cs ⟨_, _, rfl, _, _⟩ u hu; simp at hu; rcases hu with rfl | rfl | rfl | rfl <;> rfl
  K_below := by rintro w w1 x cs hb ⟨A, c, e, h, hC⟩; exact ⟨A, c, e, h, Kd.C_below hC hb⟩
  K_of_M := fun h => h.elim
  M_mono := fun _ h => h
  M_bound := fun h => h
  M_move := fun _ h => h
  M_lower := fun _ h => h
theorem at_itk {w : World} {A : Option Addr} {n : Nat} {xs : List Itm} (h : Kd.C itk w A n xs) (i : Nat) (x : Itm) (hx : xs[i]? = some x) (h1 : i < n) : ∃ ad A3 c3, A = some ad ∧ w.cell? (ad.add (i * 4)) = some (.int .i64 x.f0) ∧ w.cell? ⟨(ad.add (i * 4)).block, (ad.add (i * 4)).off + 1, none⟩ = some (.int .i64 x.f1) ∧ w.cell? ⟨(ad.add (i * 4)).block, (ad.add (i * 4)).off + 2, none⟩ = some (.int .i64 x.f2) ∧ w.cell? ⟨(ad.add (i * 4)).block, (ad.add (i * 4)).off + 3, none⟩ = some (.slice A3 x.f3.length c3) ∧ x.f3.length ≤ c3 ∧ (Kd.int .u8).C w A3 x.f3.length x.f3 := by
  obtain ⟨ad, c, e, _, hK, hc0⟩ := Kd.C_get h x (i : Int) (by omega) (by omega)
  simp only [Int.toNat_natCast] at hc0 hK
  have hc : ∀ j u, c[j]? = some u → w.cell? (ad.add (i * 4 + j)) = some u := hc0
  have hg : xs.getD i x = x := by simp [List.getD, hx]
  rw [hg] at hK
  obtain ⟨A3, c3, rfl, l3, g3⟩ := hK
  exact ⟨ad, A3, c3, e, hc 0 _ rfl, by rw [← add_field _ _ 1 (by omega)]; exact hc 1 _ rfl, by rw [← add_field _ _ 2 (by omega)]; exact hc 2 _ rfl, by rw [← add_field _ _ 3 (by omega)]; exact hc 3 _ rfl, l3, g3⟩
/-- What a log becomes of messages that are handed to it. -/
def logF : (Nat → Int) → List S52 → List Itm → List S52
  | _, L, [] => L
  | f, L, x :: t => logF (handF f L x.f0 x.f2 x.f3).2.1 (handF f L x.f0 x.f2 x.f3).2.2 t
theorem handF_len (f : Nat → Int) (L : List S52) (fr sq : Int) (b : List Int) : (handF f L fr sq b).2.2.length ≤ L.length + 1 := by
  unfold handF
  split
  · exact Nat.le_succ _
  · simp
set_option maxHeartbeats 4000000 in
theorem law_walk (k : Nat) (A0 A1 : Option Addr) (c0 c1 : Nat) (l : List S52) (x : List Itm) (w : World) (hr0 : Kd.C k52 w A0 l.length l) (hc0 : l.length ≤ c0) (hr1 : Kd.C itk w A1 x.length x) (hc1 : x.length ≤ c1)
    (hl : l.length ≤ 60) (hx : x.length ≤ 60) (hb : ∀ y ∈ x, y.f3.length < 140737488355328) (hwf : ∀ x ∈ l, (Lit.int .i64 x.f0).wf = true ∧ (Lit.int .i64 x.f1).wf = true)
    (hL : (logF (fun _ => 0) [] x).length ≤ 60 ∧ (∀ y ∈ logF (fun _ => 0) [] x, (Lit.int .i64 y.f0).wf = true ∧ (Lit.int .i64 y.f1).wf = true) ∧ ordM (fun _ => 0) (logF (fun _ => 0) [] x) = true) (hO : drumlineref26_Order.f k l = some (ordM (fun _ => 0) l)) :
    Calls Tryd.prog 3 #[.slice A0 l.length c0, .slice A1 x.length c1] w fun e w' => e = .returned (.bool true) ∧ Below w.heap.size w w' := by
  have HR0 := Aside0.mk hr0
  have HR1 := Aside0.mk hr1
  have HC0 := Aside0.mk hc0
  have HWF := Aside0.mk hwf
  have HBB := Aside0.mk hb
  have HLO := Aside0.mk hL
  have HO := Aside0.mk hO
  have d0 : decide ((60 : Int) < (l.length : Int)) = false := decide_eq_false (by omega)
  have d1 : decide ((60 : Int) < (x.length : Int)) = false := decide_eq_false (by omega)
  clear hr0 hr1 hc0 hc1 hwf hb hL hO
  go_enter Tryd.func3, Tryd.ntmps3
  go_wp2_with fail
  refine (alive_walk _).mono ?_
  rintro e w1 ⟨rfl, hb1⟩
  have HB1 := Aside0.mk hb1
  clear hb1
  go_wp2_with fail
  refine (newlog_walk _).mono ?_
  rintro e w2 ⟨rfl, hG, hb2⟩
  have HG2 := Aside0.mk hG
  have HB2 := Aside0.mk (below_step HB1.out hb2)
  have HSZ := Aside0.mk (HB1.out.size)
  clear hG hb2
  generalize w1.heap.size = g at *
  go_wp2_with fail
  go_loopg [6] (x.length + 1) (fun kq v6 wr => ∃ (i : Nat) (f : Nat → Int) (L : List S52), Aside0 (i ≤ x.length ∧ kq = x.length + 1 - i ∧ L.length ≤ i) ∧ v6 = .int .i64 i ∧ Aside0 (Lg wr g g f L) ∧ Aside0 (Below w.heap.size w wr) ∧ Aside0 (logF f L (x.drop i) = logF (fun _ => 0) [] x))
  case atStart => exact ⟨0, fun _ => 0, [], ⟨Nat.zero_le _, rfl, Nat.zero_le _⟩, rfl, HG2, HB2, ⟨rfl⟩⟩
  case round =>
    clear HG2 HB2
    obtain ⟨i, f, L, HK, rfl, HG, HB, HZ⟩ := hrel
    by_cases hi : i < x.length
    · have hd : decide ((i : Int) < (x.length : Int)) = true := decide_eq_true (by omega)
      obtain ⟨ad, A3, c3, e3, h0, h1, h2, h3, hcl, hC⟩ := at_itk (Kd.C_below HR1.out HB.out) i x[i] (List.getElem?_eq_getElem hi) hi
      cases e3
      have hdr : x.drop i = x[i] :: x.drop (i + 1) := by rw [List.drop_eq_getElem_cons hi]
      have hbl := HBB.out x[i] (List.getElem_mem hi)
      have HZ2 : Aside0 (logF f L (x[i] :: x.drop (i + 1)) = logF (fun _ => 0) [] x) := ⟨by rw [← hdr]; exact HZ.out⟩
      have p0_ := eq_true (show (0 : Int) ≤ (i : Int) by omega)
      have p0c : (i : Int) < (x.length : Int) := by omega
      clear HZ hdr
      generalize x[i] = y at *
      have HH := Aside0.mk (hand_walk y.f0 y.f1 y.f2 A3 c3 y.f3 wr HG.out hC hcl hbl (by have := HK.out; omega))
      clear hC hcl hbl
      cases gk with
      | zero => exact absurd HK.out (by omega)
      | succ k1 =>
      go_wp2_with fail
      refine HH.out.mono ?_
      rintro e w3 ⟨rfl, hG3, hb3⟩
      have HG3 := Aside0.mk hG3
      have HB3 := Aside0.mk (HB.out.trans (hb3.mono HSZ.out))
      clear hG3 hb3
      go_wp2_with fail
      go_roundg k1
      case measure => have := HK.out; omega
      case rel => exact ⟨i + 1, _, _, ⟨by omega, by have := HK.out; omega, by have := HK.out; have := handF_len f L y.f0 y.f2 y.f3; omega⟩, rfl, HG3, HB3, HZ2⟩
    · have hd : decide ((i : Int) < (x.length : Int)) = false := decide_eq_false (by omega)
      have HE : Aside0 (L = logF (fun _ => 0) [] x) := ⟨by rw [← HZ.out, List.drop_eq_nil_iff.2 (by omega)]; rfl⟩
      clear HZ
      rw [← HE.out] at HLO
      clear HE
      go_wp2_with fail
      refine (order_walk A0 c0 l wr (lgk_of (Kd.C_below HR0.out HB.out)) (by omega) HWF.out).mono ?_
      rintro e w3 ⟨rfl, hb3⟩
      have HB3 := Aside0.mk (below_step HB.out hb3)
      have HG3 := Aside0.mk (HG.out.more hb3)
      clear hb3
      go_wp2_with fail
      refine (drumlineref26_Order.calls k A0 c0 l _ _ (Kd.C_below HR0.out HB3.out) HC0.out HO.out).mono ?_
      rintro e w4 ⟨rfl, hb4⟩
      have HB4 := Aside0.mk (below_step HB3.out hb4.below)
      have HG4 := Aside0.mk (HG3.out.more hb4.below)
      clear hb4
      obtain ⟨⟨AL, cL, hblk, hrow⟩, _⟩ := HG4.out
      have c7 : w4.cell? ⟨g, 7, none⟩ = some (.slice AL L.length cL) := (blk_cell hblk 7).trans rfl
      have HRL := Aside0.mk (Kd.R_reads' hrow).2.2
      clear hblk hrow
      generalize ordM (fun _ => 0) l = r at *
      go_wp2_with fail
      refine (order_walk AL cL L _ HRL.out (by have := HLO.out; omega) HLO.out.2.1).mono ?_
      rintro e w5 ⟨rfl, hb5⟩
      have HB5 := Aside0.mk (below_step HB4.out hb5)
      clear hb5
      rw [HLO.out.2.2]
      go_wp2_with fail
      go_ret
      exact ⟨by simp, HB5.out⟩
theorem long_walk (A0 A1 : Option Addr) (c0 c1 : Nat) (n m : Nat) (w : World) (h : 60 < n ∨ 60 < m) :
    Calls Tryd.prog 3 #[.slice A0 n c0, .slice A1 m c1] w fun e w' => e = .returned (.bool true) ∧ Below w.heap.size w w' := by
  by_cases h0 : 60 < n
  · have d0 : decide ((60 : Int) < (n : Int)) = true := decide_eq_true (by omega)
    clear h
    go_enter Tryd.func3, Tryd.ntmps3
    go_wp2_with fail
    refine (alive_walk _).mono ?_
    rintro e w1 ⟨rfl, hb1⟩
    have HB1 := Aside0.mk hb1
    clear hb1
    go_wp2_with fail
    refine (alive_walk _).mono ?_
    rintro e w2 ⟨rfl, hb2⟩
    have HB2 := Aside0.mk (below_step HB1.out hb2)
    clear hb2
    go_wp2_with fail
    go_ret
    exact ⟨rfl, HB2.out⟩
  · have d0 : decide ((60 : Int) < (n : Int)) = false := decide_eq_false (by omega)
    have d1 : decide ((60 : Int) < (m : Int)) = true := decide_eq_true (by omega)
    clear h
    go_enter Tryd.func3, Tryd.ntmps3
    go_wp2_with fail
    refine (alive_walk _).mono ?_
    rintro e w1 ⟨rfl, hb1⟩
    have HB1 := Aside0.mk hb1
    clear hb1
    go_wp2_with fail
    refine (alive_walk _).mono ?_
    rintro e w2 ⟨rfl, hb2⟩
    have HB2 := Aside0.mk (below_step HB1.out hb2)
    clear hb2
    go_wp2_with fail
    go_ret
    exact ⟨rfl, HB2.out⟩
end Go.Proofs.YtbiofobpafpgfaaDoor.MWo
