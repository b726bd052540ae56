/- The document's log: NewLog and Hand. -/
import Derived.Test.YtbiofobpafpgfaaDoorHWa
import Derived.Test.YtbiofobpafpgfaaDoorMWox56
import Derived.Deep.RegionLaw
import Derived.Deep.RegionHeld3
set_option linter.unusedVariables false
set_option linter.unusedSimpArgs false
set_option maxRecDepth 100000
namespace Go.Proofs.YtbiofobpafpgfaaDoor.MWo
open Go.RowKit Go.Proofs.YtbiofobpafpgfaaDoorW.PrintWords Go.Proofs.YtbiofobpafpgfaaDoorW.PrintLast Go.Proofs.YtbiofobpafpgfaaDoorW.PrintMore
/-- A log of six parts at block g: each sender's last number, and the messages. -/
structure Lg (W : World) (base g : Nat) (f : Nat → Int) (L : List S52) : Prop where
  blk : ∃ A c, W.heap[g]? = some (.cells #[.int .i64 6, .int .i64 (f 0), .int .i64 (f 1), .int .i64 (f 2), .int .i64 (f 3), .int .i64 (f 4), .int .i64 (f 5), .slice A L.length c] 34 (0, 0)) ∧ Kd.R lgk 52 W base (fun k => k ≠ g) (.slice A L.length c) L
  low : base ≤ g
theorem newlog_walk (w : World) : Calls Tryd.prog 5 #[.int .i64 6] w fun e w' => e = .returned (.pointer (some ⟨w.heap.size, 0, none⟩)) ∧ Lg w' w.heap.size w.heap.size (fun _ => 0) [] ∧ Below w.heap.size w w' := by
  go_enter Tryd.func5, Tryd.ntmps5
  go_wp2
  go_ret
  exact ⟨rfl, ⟨⟨none, 0, heap_alloc_new _ _, Kd.R_nil _ _ _ _ _⟩, Nat.le_refl _⟩, below_alloc (Below.refl _ _) _⟩
variable {base g : Nat} {f : Nat → Int} {L : List S52}
theorem Lg.more {w w1 : World} (H : Lg w base g f L) (k : Below w.heap.size w w1) : Lg w1 base g f L := by
  obtain ⟨⟨A, c, hb, hr⟩, lo⟩ := H
  exact ⟨⟨A, c, (k.block g (blk_lt hb)).trans hb, Kd.R_below hr k⟩, lo⟩
theorem Lg.lt {w : World} (H : Lg w base g f L) : g < w.heap.size := by
  obtain ⟨⟨A, c, hb, hr⟩, lo⟩ := H
  exact blk_lt hb
set_option maxHeartbeats 1000000 in
theorem hand_no (fr tt sq : Int) (A3 : Option Addr) (n3 c3 : Nat) (w : World) (H : Lg w base g f L) (h : fr < 0 ∨ 6 ≤ fr ∨ 0 ≤ fr ∧ fr < 6 ∧ sq ≤ f fr.toNat) :
    Calls Tryd.prog 6 #[.pointer (some ⟨g, 0, none⟩), .agg #[.int .i64 fr, .int .i64 tt, .int .i64 sq, .slice A3 n3 c3]] w fun e w' => e = .returned (.bool false) ∧ Lg w' base g f L ∧ Below base w w' := by
  rcases h with h | h | ⟨h1, h2, h3⟩
  · have d1 : decide (fr < 0) = true := decide_eq_true h
    obtain ⟨⟨A, c, hb, hr⟩, lo⟩ := H
    have HH := Aside0.mk (Lg.mk (f := f) (L := L) ⟨A, c, hb, hr⟩ lo)
    have HG := Aside0.mk hb
    have HLT := Aside0.mk (blk_lt hb)
    have HRW : Aside0 (Kd.R lgk 52 w base (fun k => k ≠ g ∧ k ≠ w.heap.size) (.slice A L.length c) L) := ⟨Kd.R_mono (Kd.R_bound hr) (fun k hk => ⟨hk.1, Nat.ne_of_lt hk.2.2.1⟩)⟩
    clear hr hb
    go_enter Tryd.func6, Tryd.ntmps6
    go_wp2
    have kb := below_alloc (Below.refl w.heap.size w) (.cells #[.int .i64 fr, .int .i64 tt, .int .i64 sq, .slice A3 n3 c3] 30)
    have HX := Aside0.mk (heap_alloc_new w (.cells #[.int .i64 fr, .int .i64 tt, .int .i64 sq, .slice A3 n3 c3] 30))
    have H1 := Aside0.mk (HH.out.more kb)
    have HG1 := Aside0.mk ((kb.block g (blk_lt HG.out)).trans HG.out)
    have HB := Aside0.mk kb
    have HRW_ := Aside0.mk (Kd.R_below HRW.out kb)
    have HRW := HRW_
    clear HRW_ kb
    generalize w.alloc (.cells #[.int .i64 fr, .int .i64 tt, .int .i64 sq, .slice A3 n3 c3] 30) = w1 at *
    generalize w.heap.size = xb at *
    have x0 : w1.cell? ⟨xb, 0, none⟩ = some (.int .i64 fr) := (blk_cell HX.out 0).trans rfl
    have x2 : w1.cell? ⟨xb, 2, none⟩ = some (.int .i64 sq) := (blk_cell HX.out 2).trans rfl
    have c0 : w1.cell? ⟨g, 0, none⟩ = some (.int .i64 6) := (blk_cell HG1.out 0).trans rfl
    go_quiet (fail)
    go_wp2
    go_ret
    exact ⟨rfl, H1.out.more (pw_below_drewN (Below.refl _ _) nq), pw_below_drewN (HB.out.mono (Nat.le_trans lo (Nat.le_of_lt HLT.out))) nq⟩
  · have d1 : decide (fr < 0) = false := decide_eq_false (by omega)
    have d2 : decide (6 ≤ fr) = true := decide_eq_true h
    obtain ⟨⟨A, c, hb, hr⟩, lo⟩ := H
    have HH := Aside0.mk (Lg.mk (f := f) (L := L) ⟨A, c, hb, hr⟩ lo)
    have HG := Aside0.mk hb
    have HLT := Aside0.mk (blk_lt hb)
    have HRW : Aside0 (Kd.R lgk 52 w base (fun k => k ≠ g ∧ k ≠ w.heap.size) (.slice A L.length c) L) := ⟨Kd.R_mono (Kd.R_bound hr) (fun k hk => ⟨hk.1, Nat.ne_of_lt hk.2.2.1⟩)⟩
    clear hr hb
    go_enter Tryd.func6, Tryd.ntmps6
    go_wp2
    have kb := below_alloc (Below.refl w.heap.size w) (.cells #[.int .i64 fr, .int .i64 tt, .int .i64 sq, .slice A3 n3 c3] 30)
    have HX := Aside0.mk (heap_alloc_new w (.cells #[.int .i64 fr, .int .i64 tt, .int .i64 sq, .slice A3 n3 c3] 30))
    have H1 := Aside0.mk (HH.out.more kb)
    have HG1 := Aside0.mk ((kb.block g (blk_lt HG.out)).trans HG.out)
    have HB := Aside0.mk kb
    have HRW_ := Aside0.mk (Kd.R_below HRW.out kb)
    have HRW := HRW_
    clear HRW_ kb
    generalize w.alloc (.cells #[.int .i64 fr, .int .i64 tt, .int .i64 sq, .slice A3 n3 c3] 30) = w1 at *
    generalize w.heap.size = xb at *
    have x0 : w1.cell? ⟨xb, 0, none⟩ = some (.int .i64 fr) := (blk_cell HX.out 0).trans rfl
    have x2 : w1.cell? ⟨xb, 2, none⟩ = some (.int .i64 sq) := (blk_cell HX.out 2).trans rfl
    have c0 : w1.cell? ⟨g, 0, none⟩ = some (.int .i64 6) := (blk_cell HG1.out 0).trans rfl
    go_quiet (fail)
    go_wp2
    go_ret
    exact ⟨rfl, H1.out.more (pw_below_drewN (Below.refl _ _) nq), pw_below_drewN (HB.out.mono (Nat.le_trans lo (Nat.le_of_lt HLT.out))) nq⟩
  · rcases (show fr = 0 ∨ fr = 1 ∨ fr = 2 ∨ fr = 3 ∨ fr = 4 ∨ fr = 5 by omega) with rfl | rfl | rfl | rfl | rfl | rfl
    · have d1 : decide (sq ≤ f 0) = true := decide_eq_true h3
      obtain ⟨⟨A, c, hb, hr⟩, lo⟩ := H
      have HH := Aside0.mk (Lg.mk (f := f) (L := L) ⟨A, c, hb, hr⟩ lo)
      have HG := Aside0.mk hb
      have HLT := Aside0.mk (blk_lt hb)
      have HRW : Aside0 (Kd.R lgk 52 w base (fun k => k ≠ g ∧ k ≠ w.heap.size) (.slice A L.length c) L) := ⟨Kd.R_mono (Kd.R_bound hr) (fun k hk => ⟨hk.1, Nat.ne_of_lt hk.2.2.1⟩)⟩
      clear hr hb
      go_enter Tryd.func6, Tryd.ntmps6
      go_wp2
      have kb := below_alloc (Below.refl w.heap.size w) (.cells #[.int .i64 0, .int .i64 tt, .int .i64 sq, .slice A3 n3 c3] 30)
      have HX := Aside0.mk (heap_alloc_new w (.cells #[.int .i64 0, .int .i64 tt, .int .i64 sq, .slice A3 n3 c3] 30))
      have H1 := Aside0.mk (HH.out.more kb)
      have HG1 := Aside0.mk ((kb.block g (blk_lt HG.out)).trans HG.out)
      have HB := Aside0.mk kb
      have HRW_ := Aside0.mk (Kd.R_below HRW.out kb)
      have HRW := HRW_
      clear HRW_ kb
      generalize w.alloc (.cells #[.int .i64 0, .int .i64 tt, .int .i64 sq, .slice A3 n3 c3] 30) = w1 at *
      generalize w.heap.size = xb at *
      have x0 : w1.cell? ⟨xb, 0, none⟩ = some (.int .i64 0) := (blk_cell HX.out 0).trans rfl
      have x2 : w1.cell? ⟨xb, 2, none⟩ = some (.int .i64 sq) := (blk_cell HX.out 2).trans rfl
      have c0 : w1.cell? ⟨g, 0, none⟩ = some (.int .i64 6) := (blk_cell HG1.out 0).trans rfl
      have c1 : w1.cell? ⟨g, 1, none⟩ = some (.int .i64 (f 0)) := (blk_cell HG1.out 1).trans rfl
      go_quiet (fail)
      go_wp2
      go_ret
      exact ⟨rfl, H1.out.more (pw_below_drewN (Below.refl _ _) nq), pw_below_drewN (HB.out.mono (Nat.le_trans lo (Nat.le_of_lt HLT.out))) nq⟩
    · have d1 : decide (sq ≤ f 1) = true := decide_eq_true h3
      obtain ⟨⟨A, c, hb, hr⟩, lo⟩ := H
      have HH := Aside0.mk (Lg.mk (f := f) (L := L) ⟨A, c, hb, hr⟩ lo)
      have HG := Aside0.mk hb
      have HLT := Aside0.mk (blk_lt hb)
      have HRW : Aside0 (Kd.R lgk 52 w base (fun k => k ≠ g ∧ k ≠ w.heap.size) (.slice A L.length c) L) := ⟨Kd.R_mono (Kd.R_bound hr) (fun k hk => ⟨hk.1, Nat.ne_of_lt hk.2.2.1⟩)⟩
      clear hr hb
      go_enter Tryd.func6, Tryd.ntmps6
      go_wp2
      have kb := below_alloc (Below.refl w.heap.size w) (.cells #[.int .i64 1, .int .i64 tt, .int .i64 sq, .slice A3 n3 c3] 30)
      have HX := Aside0.mk (heap_alloc_new w (.cells #[.int .i64 1, .int .i64 tt, .int .i64 sq, .slice A3 n3 c3] 30))
      have H1 := Aside0.mk (HH.out.more kb)
      have HG1 := Aside0.mk ((kb.block g (blk_lt HG.out)).trans HG.out)
      have HB := Aside0.mk kb
      have HRW_ := Aside0.mk (Kd.R_below HRW.out kb)
      have HRW := HRW_
      clear HRW_ kb
      generalize w.alloc (.cells #[.int .i64 1, .int .i64 tt, .int .i64 sq, .slice A3 n3 c3] 30) = w1 at *
      generalize w.heap.size = xb at *
      have x0 : w1.cell? ⟨xb, 0, none⟩ = some (.int .i64 1) := (blk_cell HX.out 0).trans rfl
      have x2 : w1.cell? ⟨xb, 2, none⟩ = some (.int .i64 sq) := (blk_cell HX.out 2).trans rfl
      have c0 : w1.cell? ⟨g, 0, none⟩ = some (.int .i64 6) := (blk_cell HG1.out 0).trans rfl
      have c1 : w1.cell? ⟨g, 2, none⟩ = some (.int .i64 (f 1)) := (blk_cell HG1.out 2).trans rfl
      go_quiet (fail)
      go_wp2
      go_ret
      exact ⟨rfl, H1.out.more (pw_below_drewN (Below.refl _ _) nq), pw_below_drewN (HB.out.mono (Nat.le_trans lo (Nat.le_of_lt HLT.out))) nq⟩
    · have d1 : decide (sq ≤ f 2) = true := decide_eq_true h3
      obtain ⟨⟨A, c, hb, hr⟩, lo⟩ := H
      have HH := Aside0.mk (Lg.mk (f := f) (L := L) ⟨A, c, hb, hr⟩ lo)
      have HG := Aside0.mk hb
      have HLT := Aside0.mk (blk_lt hb)
      have HRW : Aside0 (Kd.R lgk 52 w base (fun k => k ≠ g ∧ k ≠ w.heap.size) (.slice A L.length c) L) := ⟨Kd.R_mono (Kd.R_bound hr) (fun k hk => ⟨hk.1, Nat.ne_of_lt hk.2.2.1⟩)⟩
      clear hr hb
      go_enter Tryd.func6, Tryd.ntmps6
      go_wp2
      have kb := below_alloc (Below.refl w.heap.size w) (.cells #[.int .i64 2, .int .i64 tt, .int .i64 sq, .slice A3 n3 c3] 30)
      have HX := Aside0.mk (heap_alloc_new w (.cells #[.int .i64 2, .int .i64 tt, .int .i64 sq, .slice A3 n3 c3] 30))
      have H1 := Aside0.mk (HH.out.more kb)
      have HG1 := Aside0.mk ((kb.block g (blk_lt HG.out)).trans HG.out)
      have HB := Aside0.mk kb
      have HRW_ := Aside0.mk (Kd.R_below HRW.out kb)
      have HRW := HRW_
      clear HRW_ kb
      generalize w.alloc (.cells #[.int .i64 2, .int .i64 tt, .int .i64 sq, .slice A3 n3 c3] 30) = w1 at *
      generalize w.heap.size = xb at *
      have x0 : w1.cell? ⟨xb, 0, none⟩ = some (.int .i64 2) := (blk_cell HX.out 0).trans rfl
      have x2 : w1.cell? ⟨xb, 2, none⟩ = some (.int .i64 sq) := (blk_cell HX.out 2).trans rfl
      have c0 : w1.cell? ⟨g, 0, none⟩ = some (.int .i64 6) := (blk_cell HG1.out 0).trans rfl
      have c1 : w1.cell? ⟨g, 3, none⟩ = some (.int .i64 (f 2)) := (blk_cell HG1.out 3).trans rfl
      go_quiet (fail)
      go_wp2
      go_ret
      exact ⟨rfl, H1.out.more (pw_below_drewN (Below.refl _ _) nq), pw_below_drewN (HB.out.mono (Nat.le_trans lo (Nat.le_of_lt HLT.out))) nq⟩
    · have d1 : decide (sq ≤ f 3) = true := decide_eq_true h3
      obtain ⟨⟨A, c, hb, hr⟩, lo⟩ := H
      have HH := Aside0.mk (Lg.mk (f := f) (L := L) ⟨A, c, hb, hr⟩ lo)
      have HG := Aside0.mk hb
      have HLT := Aside0.mk (blk_lt hb)
      have HRW : Aside0 (Kd.R lgk 52 w base (fun k => k ≠ g ∧ k ≠ w.heap.size) (.slice A L.length c) L) := ⟨Kd.R_mono (Kd.R_bound hr) (fun k hk => ⟨hk.1, Nat.ne_of_lt hk.2.2.1⟩)⟩
      clear hr hb
      go_enter Tryd.func6, Tryd.ntmps6
      go_wp2
      have kb := below_alloc (Below.refl w.heap.size w) (.cells #[.int .i64 3, .int .i64 tt, .int .i64 sq, .slice A3 n3 c3] 30)
      have HX := Aside0.mk (heap_alloc_new w (.cells #[.int .i64 3, .int .i64 tt, .int .i64 sq, .slice A3 n3 c3] 30))
      have H1 := Aside0.mk (HH.out.more kb)
      have HG1 := Aside0.mk ((kb.block g (blk_lt HG.out)).trans HG.out)
      have HB := Aside0.mk kb
      have HRW_ := Aside0.mk (Kd.R_below HRW.out kb)
      have HRW := HRW_
      clear HRW_ kb
      generalize w.alloc (.cells #[.int .i64 3, .int .i64 tt, .int .i64 sq, .slice A3 n3 c3] 30) = w1 at *
      generalize w.heap.size = xb at *
      have x0 : w1.cell? ⟨xb, 0, none⟩ = some (.int .i64 3) := (blk_cell HX.out 0).trans rfl
      have x2 : w1.cell? ⟨xb, 2, none⟩ = some (.int .i64 sq) := (blk_cell HX.out 2).trans rfl
      have c0 : w1.cell? ⟨g, 0, none⟩ = some (.int .i64 6) := (blk_cell HG1.out 0).trans rfl
      have c1 : w1.cell? ⟨g, 4, none⟩ = some (.int .i64 (f 3)) := (blk_cell HG1.out 4).trans rfl
      go_quiet (fail)
      go_wp2
      go_ret
      exact ⟨rfl, H1.out.more (pw_below_drewN (Below.refl _ _) nq), pw_below_drewN (HB.out.mono (Nat.le_trans lo (Nat.le_of_lt HLT.out))) nq⟩
    · have d1 : decide (sq ≤ f 4) = true := decide_eq_true h3
      obtain ⟨⟨A, c, hb, hr⟩, lo⟩ := H
      have HH := Aside0.mk (Lg.mk (f := f) (L := L) ⟨A, c, hb, hr⟩ lo)
      have HG := Aside0.mk hb
      have HLT := Aside0.mk (blk_lt hb)
      have HRW : Aside0 (Kd.R lgk 52 w base (fun k => k ≠ g ∧ k ≠ w.heap.size) (.slice A L.length c) L) := ⟨Kd.R_mono (Kd.R_bound hr) (fun k hk => ⟨hk.1, Nat.ne_of_lt hk.2.2.1⟩)⟩
      clear hr hb
      go_enter Tryd.func6, Tryd.ntmps6
      go_wp2
      have kb := below_alloc (Below.refl w.heap.size w) (.cells #[.int .i64 4, .int .i64 tt, .int .i64 sq, .slice A3 n3 c3] 30)
      have HX := Aside0.mk (heap_alloc_new w (.cells #[.int .i64 4, .int .i64 tt, .int .i64 sq, .slice A3 n3 c3] 30))
      have H1 := Aside0.mk (HH.out.more kb)
      have HG1 := Aside0.mk ((kb.block g (blk_lt HG.out)).trans HG.out)
      have HB := Aside0.mk kb
      have HRW_ := Aside0.mk (Kd.R_below HRW.out kb)
      have HRW := HRW_
      clear HRW_ kb
      generalize w.alloc (.cells #[.int .i64 4, .int .i64 tt, .int .i64 sq, .slice A3 n3 c3] 30) = w1 at *
      generalize w.heap.size = xb at *
      have x0 : w1.cell? ⟨xb, 0, none⟩ = some (.int .i64 4) := (blk_cell HX.out 0).trans rfl
      have x2 : w1.cell? ⟨xb, 2, none⟩ = some (.int .i64 sq) := (blk_cell HX.out 2).trans rfl
      have c0 : w1.cell? ⟨g, 0, none⟩ = some (.int .i64 6) := (blk_cell HG1.out 0).trans rfl
      have c1 : w1.cell? ⟨g, 5, none⟩ = some (.int .i64 (f 4)) := (blk_cell HG1.out 5).trans rfl
      go_quiet (fail)
      go_wp2
      go_ret
      exact ⟨rfl, H1.out.more (pw_below_drewN (Below.refl _ _) nq), pw_below_drewN (HB.out.mono (Nat.le_trans lo (Nat.le_of_lt HLT.out))) nq⟩
    · have d1 : decide (sq ≤ f 5) = true := decide_eq_true h3
      obtain ⟨⟨A, c, hb, hr⟩, lo⟩ := H
      have HH := Aside0.mk (Lg.mk (f := f) (L := L) ⟨A, c, hb, hr⟩ lo)
      have HG := Aside0.mk hb
      have HLT := Aside0.mk (blk_lt hb)
      have HRW : Aside0 (Kd.R lgk 52 w base (fun k => k ≠ g ∧ k ≠ w.heap.size) (.slice A L.length c) L) := ⟨Kd.R_mono (Kd.R_bound hr) (fun k hk => ⟨hk.1, Nat.ne_of_lt hk.2.2.1⟩)⟩
      clear hr hb
      go_enter Tryd.func6, Tryd.ntmps6
      go_wp2
      have kb := below_alloc (Below.refl w.heap.size w) (.cells #[.int .i64 5, .int .i64 tt, .int .i64 sq, .slice A3 n3 c3] 30)
      have HX := Aside0.mk (heap_alloc_new w (.cells #[.int .i64 5, .int .i64 tt, .int .i64 sq, .slice A3 n3 c3] 30))
      have H1 := Aside0.mk (HH.out.more kb)
      have HG1 := Aside0.mk ((kb.block g (blk_lt HG.out)).trans HG.out)
      have HB := Aside0.mk kb
      have HRW_ := Aside0.mk (Kd.R_below HRW.out kb)
      have HRW := HRW_
      clear HRW_ kb
      generalize w.alloc (.cells #[.int .i64 5, .int .i64 tt, .int .i64 sq, .slice A3 n3 c3] 30) = w1 at *
      generalize w.heap.size = xb at *
      have x0 : w1.cell? ⟨xb, 0, none⟩ = some (.int .i64 5) := (blk_cell HX.out 0).trans rfl
      have x2 : w1.cell? ⟨xb, 2, none⟩ = some (.int .i64 sq) := (blk_cell HX.out 2).trans rfl
      have c0 : w1.cell? ⟨g, 0, none⟩ = some (.int .i64 6) := (blk_cell HG1.out 0).trans rfl
      have c1 : w1.cell? ⟨g, 6, none⟩ = some (.int .i64 (f 5)) := (blk_cell HG1.out 6).trans rfl
      go_quiet (fail)
      go_wp2
      go_ret
      exact ⟨rfl, H1.out.more (pw_below_drewN (Below.refl _ _) nq), pw_below_drewN (HB.out.mono (Nat.le_trans lo (Nat.le_of_lt HLT.out))) nq⟩
theorem hinfoG : (Tryd.prog.info? 52).map (fun i => (i.zero, i.size, i.bytes)) = some (some (.agg #[.int .i64 0, .int .i64 0, .bool false, .slice none 0 0]), 4, 48) := by kernel_rfl
theorem copy_ok {b : List Int} (h : b.length < 140737488355328) : drumlineref1_Copy.f b = some b := by
  unfold drumlineref1_Copy.f
  rw [if_pos (by simp only [List.length_nil]; omega)]
  rfl
set_option maxHeartbeats 8000000 in
theorem hand_yes0 (tt sq : Int) (A3 : Option Addr) (c3 : Nat) (b : List Int) (w : World) (H : Lg w base g f L) (hC : Kd.C (Kd.int .u8) w A3 b.length b) (hcl : b.length ≤ c3) (hbl : b.length < 140737488355328) (hL : L.length ≤ 1000) (h : f 0 < sq) :
    Calls Tryd.prog 6 #[.pointer (some ⟨g, 0, none⟩), .agg #[.int .i64 0, .int .i64 tt, .int .i64 sq, .slice A3 b.length c3]] w fun e w' => e = .returned (.bool true) ∧ Lg w' base g (fun i => if i = 0 then sq else f i) (L ++ [(⟨0, sq, (wrap64 (sq - 1) != f 0), b⟩ : S52)]) ∧ Below base w w' := by
  have HC := Aside0.mk hC
  have HCL := Aside0.mk hcl
  have HBL := Aside0.mk hbl
  have HLL := Aside0.mk hL
  clear hC hcl hbl hL
  have d1 : decide (sq ≤ f 0) = false := decide_eq_false (by omega)
  obtain ⟨⟨A, c, hb, hr⟩, lo⟩ := H
  have HH := Aside0.mk (Lg.mk (f := f) (L := L) ⟨A, c, hb, hr⟩ lo)
  have HG := Aside0.mk hb
  have HLT := Aside0.mk (blk_lt hb)
  have HRW : Aside0 (Kd.R lgk 52 w base (fun k => k ≠ g ∧ k ≠ w.heap.size) (.slice A L.length c) L) := ⟨Kd.R_mono (Kd.R_bound hr) (fun k hk => ⟨hk.1, Nat.ne_of_lt hk.2.2.1⟩)⟩
  clear hr hb
  go_enter Tryd.func6, Tryd.ntmps6
  go_wp2
  have kb := below_alloc (Below.refl w.heap.size w) (.cells #[.int .i64 0, .int .i64 tt, .int .i64 sq, .slice A3 b.length c3] 30)
  have HX := Aside0.mk (heap_alloc_new w (.cells #[.int .i64 0, .int .i64 tt, .int .i64 sq, .slice A3 b.length c3] 30))
  have H1 := Aside0.mk (HH.out.more kb)
  have HG1 := Aside0.mk ((kb.block g (blk_lt HG.out)).trans HG.out)
  have HB := Aside0.mk kb
  have HRW_ := Aside0.mk (Kd.R_below HRW.out kb)
  have HRW := HRW_
  have HC1 := Aside0.mk (Kd.C_below HC.out kb)
  clear HRW_ kb
  generalize w.alloc (.cells #[.int .i64 0, .int .i64 tt, .int .i64 sq, .slice A3 b.length c3] 30) = w1 at *
  generalize w.heap.size = xb at *
  have x0 : w1.cell? ⟨xb, 0, none⟩ = some (.int .i64 0) := (blk_cell HX.out 0).trans rfl
  have x2 : w1.cell? ⟨xb, 2, none⟩ = some (.int .i64 sq) := (blk_cell HX.out 2).trans rfl
  have c0 : w1.cell? ⟨g, 0, none⟩ = some (.int .i64 6) := (blk_cell HG1.out 0).trans rfl
  have c1 : w1.cell? ⟨g, 1, none⟩ = some (.int .i64 (f 0)) := (blk_cell HG1.out 1).trans rfl
  go_quiet (fail)
  go_wp2
  have HB0 : Aside0 (Below xb w (w1.drewN nq).drew) := ⟨pw_below_drewN HB.out (nq + 1)⟩
  have HX0 : Aside0 ((w1.drewN nq).drew.heap[xb]? = _) := ⟨HX.out⟩
  have HG0 : Aside0 ((w1.drewN nq).drew.heap[g]? = _) := ⟨HG1.out⟩
  have HC0 : Aside0 (Kd.C (Kd.int .u8) (w1.drewN nq).drew A3 b.length b) := Aside0.mk (Kd.C_below HC1.out (pw_below_drewN (Below.refl w1.heap.size w1) (nq + 1)))
  have HR0 : Aside0 (Kd.R lgk 52 (w1.drewN nq).drew base (fun k => k ≠ g ∧ k ≠ xb) (.slice A L.length c) L) := Aside0.mk (Kd.R_below (Kd.R_drewN HRW.out nq) (pw_below_drewN (Below.refl _ _) 1))
  refine start_ (n := 29) (S := fun w' => w'.cell? ⟨g, 7, none⟩ = some (.slice A L.length c) ∧ w'.cell? ⟨xb, 0, none⟩ = some (.int .i64 0) ∧ w'.cell? ⟨xb, 2, none⟩ = some (.int .i64 sq) ∧ w'.cell? ⟨g, 1, none⟩ = some (.int .i64 (f 0)) ∧ w'.cell? ⟨xb, 3, none⟩ = some (.slice A3 b.length c3)) (ds := [28]) #[false, false, false, false, false, false, false, false, false, false, false, false, false, false, false, false, false, false, false, false, false, false, false, false, false, false, false, false, false] (by kernel_rfl) rfl rfl ⟨((blk_cell HG0.out 7).trans rfl), ((blk_cell HX0.out 0).trans rfl), ((blk_cell HX0.out 2).trans rfl), ((blk_cell HG0.out 1).trans rfl), ((blk_cell HX0.out 3).trans rfl)⟩ (fun hHeld => ?_)
  generalize (w1.drewN nq).drew = wd at HB0 HX0 HG0 HR0 HC0 hHeld ⊢
  refine pure_ (i := 0) (N := some 29) (v := ?_) (a' := ?_) #[true, false, false, false, false, false, false, false, false, false, false, false, false, false, false, false, false, false, false, false, false, false, false, false, false, false, false, false, false] rfl rfl (by kernel_rfl) (fun _ _ _ h => h) (Or.inl ⟨by rfl, ?_⟩) ?_ ?_
  rotate_left
  · intro w'
    go_simp
    with_reducible rfl
  rotate_left
  · simp only [Act.put, List.setIfInBounds_toArray, List.set_cons_zero, List.set_cons_succ, i64_w, i32_w]
    rfl
  refine pure_ (i := 1) (N := some 30) (v := ?_) (a' := ?_) #[true, true, false, false, false, false, false, false, false, false, false, false, false, false, false, false, false, false, false, false, false, false, false, false, false, false, false, false, false] rfl rfl (by kernel_rfl) (fun _ _ _ h => h) (Or.inl ⟨by rfl, ?_⟩) ?_ ?_
  rotate_left
  · intro w'
    go_simp
    with_reducible rfl
  rotate_left
  · simp only [Act.put, List.setIfInBounds_toArray, List.set_cons_zero, List.set_cons_succ, i64_w, i32_w]
    rfl
  refine pure_ (i := 2) (N := some 31) (v := ?_) (a' := ?_) #[true, true, true, false, false, false, false, false, false, false, false, false, false, false, false, false, false, false, false, false, false, false, false, false, false, false, false, false, false] rfl rfl (by kernel_rfl) (fun _ _ _ h => h) (Or.inl ⟨by rfl, ?_⟩) ?_ ?_
  rotate_left
  · intro w'
    go_simp
    with_reducible rfl
  rotate_left
  · simp only [Act.put, List.setIfInBounds_toArray, List.set_cons_zero, List.set_cons_succ, i64_w, i32_w]
    rfl
  refine pure_ (i := 3) (N := some 32) (v := ?_) (a' := ?_) #[true, true, true, true, false, false, false, false, false, false, false, false, false, false, false, false, false, false, false, false, false, false, false, false, false, false, false, false, false] rfl rfl (by kernel_rfl) (fun _ _ _ h => h) (Or.inl ⟨by rfl, ?_⟩) ?_ ?_
  rotate_left
  · intro w'
    go_simp
    with_reducible rfl
  rotate_left
  · simp only [Act.put, List.setIfInBounds_toArray, List.set_cons_zero, List.set_cons_succ, i64_w, i32_w]
    rfl
  refine pure_ (i := 5) (N := some 34) (v := ?_) (a' := ?_) #[true, true, true, true, false, true, false, false, false, false, false, false, false, false, false, false, false, false, false, false, false, false, false, false, false, false, false, false, false] rfl rfl (by kernel_rfl) (fun _ _ _ h => h) (Or.inl ⟨by rfl, ?_⟩) ?_ ?_
  rotate_left
  · intro w'
    go_simp
    with_reducible rfl
  rotate_left
  · simp only [Act.put, List.setIfInBounds_toArray, List.set_cons_zero, List.set_cons_succ, i64_w, i32_w]
    rfl
  refine pure_ (i := 7) (N := some 36) (v := ?_) (a' := ?_) #[true, true, true, true, false, true, false, true, false, false, false, false, false, false, false, false, false, false, false, false, false, false, false, false, false, false, false, false, false] rfl rfl (by kernel_rfl) (fun _ _ _ h => h) (Or.inl ⟨by rfl, ?_⟩) ?_ ?_
  rotate_left
  · intro w'
    go_simp
    with_reducible rfl
  rotate_left
  · simp only [Act.put, List.setIfInBounds_toArray, List.set_cons_zero, List.set_cons_succ, i64_w, i32_w]
    rfl
  refine pure_ (i := 9) (N := some 38) (v := ?_) (a' := ?_) #[true, true, true, true, false, true, false, true, false, true, false, false, false, false, false, false, false, false, false, false, false, false, false, false, false, false, false, false, false] rfl rfl (by kernel_rfl) (fun _ _ _ h => h) (Or.inl ⟨by rfl, ?_⟩) ?_ ?_
  rotate_left
  · intro w'
    go_simp
    with_reducible rfl
  rotate_left
  · simp only [Act.put, List.setIfInBounds_toArray, List.set_cons_zero, List.set_cons_succ, i64_w, i32_w]
    rfl
  refine pure_ (i := 12) (N := some 41) (v := ?_) (a' := ?_) #[true, true, true, true, false, true, false, true, false, true, false, false, true, false, false, false, false, false, false, false, false, false, false, false, false, false, false, false, false] rfl rfl (by kernel_rfl) (fun _ _ _ h => h) (Or.inl ⟨by rfl, ?_⟩) ?_ ?_
  rotate_left
  · intro w'
    go_simp
    with_reducible rfl
  rotate_left
  · simp only [Act.put, List.setIfInBounds_toArray, List.set_cons_zero, List.set_cons_succ, i64_w, i32_w]
    rfl
  refine pure_ (i := 13) (N := some 42) (v := ?_) (a' := ?_) #[true, true, true, true, false, true, false, true, false, true, false, false, true, true, false, false, false, false, false, false, false, false, false, false, false, false, false, false, false] rfl rfl (by kernel_rfl) (fun _ _ _ h => h) (Or.inl ⟨by rfl, ?_⟩) ?_ ?_
  rotate_left
  · intro w'
    go_simp
    with_reducible rfl
  rotate_left
  · simp only [Act.put, List.setIfInBounds_toArray, List.set_cons_zero, List.set_cons_succ, i64_w, i32_w]
    rfl
  refine pure_ (i := 15) (N := some 44) (v := ?_) (a' := ?_) #[true, true, true, true, false, true, false, true, false, true, false, false, true, true, false, true, false, false, false, false, false, false, false, false, false, false, false, false, false] rfl rfl (by kernel_rfl) (fun _ _ _ h => h) (Or.inl ⟨by rfl, ?_⟩) ?_ ?_
  rotate_left
  · intro w'
    go_simp
    with_reducible rfl
  rotate_left
  · simp only [Act.put, List.setIfInBounds_toArray, List.set_cons_zero, List.set_cons_succ, i64_w, i32_w]
    rfl
  refine pure_ (i := 16) (N := some 45) (v := ?_) (a' := ?_) #[true, true, true, true, false, true, false, true, false, true, false, false, true, true, false, true, true, false, false, false, false, false, false, false, false, false, false, false, false] rfl rfl (by kernel_rfl) (fun _ _ _ h => h) (Or.inl ⟨by rfl, ?_⟩) ?_ ?_
  rotate_left
  · intro w'
    go_simp
    with_reducible rfl
  rotate_left
  · simp only [Act.put, List.setIfInBounds_toArray, List.set_cons_zero, List.set_cons_succ, i64_w, i32_w]
    rfl
  refine pure_ (i := 20) (N := some 49) (v := ?_) (a' := ?_) #[true, true, true, true, false, true, false, true, false, true, false, false, true, true, false, true, true, false, false, false, true, false, false, false, false, false, false, false, false] rfl rfl (by kernel_rfl) (fun _ _ _ h => h) (Or.inl ⟨by rfl, ?_⟩) ?_ ?_
  rotate_left
  · intro w'
    go_simp
    with_reducible rfl
  rotate_left
  · simp only [Act.put, List.setIfInBounds_toArray, List.set_cons_zero, List.set_cons_succ, i64_w, i32_w]
    rfl
  refine take_ (i := 4) (N := some 33) (v := ?_) (a' := ?_) #[true, true, true, true, true, true, false, true, false, true, false, false, true, true, false, true, true, false, false, false, true, false, false, false, false, false, false, false, false] rfl rfl (by kernel_rfl) (fun _ _ _ h => h) (Or.inl ⟨by rfl, ?_⟩) hHeld ?_ ?_
  rotate_left
  · rintro w' ⟨s0, s1, s2, s3, s4⟩
    go_simp
    with_reducible rfl
  rotate_left
  · simp only [Act.put, List.setIfInBounds_toArray, List.set_cons_zero, List.set_cons_succ, i64_w, i32_w]
    rfl
  refine take_ (i := 6) (N := some 35) (v := ?_) (a' := ?_) #[true, true, true, true, true, true, true, true, false, true, false, false, true, true, false, true, true, false, false, false, true, false, false, false, false, false, false, false, false] rfl rfl (by kernel_rfl) (fun _ _ _ h => h) (Or.inl ⟨by rfl, ?_⟩) hHeld ?_ ?_
  rotate_left
  · rintro w' ⟨s0, s1, s2, s3, s4⟩
    go_simp
    with_reducible rfl
  rotate_left
  · simp only [Act.put, List.setIfInBounds_toArray, List.set_cons_zero, List.set_cons_succ, i64_w, i32_w]
    rfl
  refine take_ (i := 8) (N := some 37) (v := ?_) (a' := ?_) #[true, true, true, true, true, true, true, true, true, true, false, false, true, true, false, true, true, false, false, false, true, false, false, false, false, false, false, false, false] rfl rfl (by kernel_rfl) (fun _ _ _ h => h) (Or.inl ⟨by rfl, ?_⟩) hHeld ?_ ?_
  rotate_left
  · rintro w' ⟨s0, s1, s2, s3, s4⟩
    go_simp
    with_reducible rfl
  rotate_left
  · simp only [Act.put, List.setIfInBounds_toArray, List.set_cons_zero, List.set_cons_succ, i64_w, i32_w]
    rfl
  refine take_ (i := 10) (N := some 39) (v := ?_) (a' := ?_) #[true, true, true, true, true, true, true, true, true, true, true, false, true, true, false, true, true, false, false, false, true, false, false, false, false, false, false, false, false] rfl rfl (by kernel_rfl) (fun _ _ _ h => h) (Or.inl ⟨by rfl, ?_⟩) hHeld ?_ ?_
  rotate_left
  · rintro w' ⟨s0, s1, s2, s3, s4⟩
    go_simp
    with_reducible rfl
  rotate_left
  · simp only [Act.put, List.setIfInBounds_toArray, List.set_cons_zero, List.set_cons_succ, i64_w, i32_w]
    rfl
  refine pure_ (i := 11) (N := some 40) (v := ?_) (a' := ?_) #[true, true, true, true, true, true, true, true, true, true, true, true, true, true, false, true, true, false, false, false, true, false, false, false, false, false, false, false, false] rfl rfl (by kernel_rfl) (fun _ _ _ h => h) (Or.inl ⟨by rfl, ?_⟩) ?_ ?_
  rotate_left
  · intro w'
    go_simp
    with_reducible rfl
  rotate_left
  · simp only [Act.put, List.setIfInBounds_toArray, List.set_cons_zero, List.set_cons_succ, i64_w, i32_w]
    rfl
  refine take_ (i := 14) (N := some 43) (v := ?_) (a' := ?_) #[true, true, true, true, true, true, true, true, true, true, true, true, true, true, true, true, true, false, false, false, true, false, false, false, false, false, false, false, false] rfl rfl (by kernel_rfl) (fun _ _ _ h => h) (Or.inl ⟨by rfl, ?_⟩) hHeld ?_ ?_
  rotate_left
  · rintro w' ⟨s0, s1, s2, s3, s4⟩
    go_simp
    with_reducible rfl
  rotate_left
  · simp only [Act.put, List.setIfInBounds_toArray, List.set_cons_zero, List.set_cons_succ, i64_w, i32_w]
    rfl
  refine pure_ (i := 17) (N := some 46) (v := ?_) (a' := ?_) #[true, true, true, true, true, true, true, true, true, true, true, true, true, true, true, true, true, true, false, false, true, false, false, false, false, false, false, false, false] rfl rfl (by kernel_rfl) (fun _ _ _ h => h) (Or.inl ⟨by rfl, ?_⟩) ?_ ?_
  rotate_left
  · intro w'
    go_simp
    with_reducible rfl
  rotate_left
  · simp only [Act.put, List.setIfInBounds_toArray, List.set_cons_zero, List.set_cons_succ, i64_w, i32_w]
    rfl
  refine take_ (i := 18) (N := some 47) (v := ?_) (a' := ?_) #[true, true, true, true, true, true, true, true, true, true, true, true, true, true, true, true, true, true, true, false, true, false, false, false, false, false, false, false, false] rfl rfl (by kernel_rfl) (fun _ _ _ h => h) (Or.inl ⟨by rfl, ?_⟩) hHeld ?_ ?_
  rotate_left
  · rintro w' ⟨s0, s1, s2, s3, s4⟩
    go_simp
    with_reducible rfl
  rotate_left
  · simp only [Act.put, List.setIfInBounds_toArray, List.set_cons_zero, List.set_cons_succ, i64_w, i32_w]
    rfl
  refine pure_ (i := 19) (N := some 48) (v := ?_) (a' := ?_) #[true, true, true, true, true, true, true, true, true, true, true, true, true, true, true, true, true, true, true, true, true, false, false, false, false, false, false, false, false] rfl rfl (by kernel_rfl) (fun _ _ _ h => h) (Or.inl ⟨by rfl, ?_⟩) ?_ ?_
  rotate_left
  · intro w'
    go_simp
    with_reducible rfl
  rotate_left
  · simp only [Act.put, List.setIfInBounds_toArray, List.set_cons_zero, List.set_cons_succ, i64_w, i32_w]
    rfl
  refine take_ (i := 21) (N := some 50) (v := ?_) (a' := ?_) #[true, true, true, true, true, true, true, true, true, true, true, true, true, true, true, true, true, true, true, true, true, true, false, false, false, false, false, false, false] rfl rfl (by kernel_rfl) (fun _ _ _ h => h) (Or.inl ⟨by rfl, ?_⟩) hHeld ?_ ?_
  rotate_left
  · rintro w' ⟨s0, s1, s2, s3, s4⟩
    go_simp
    with_reducible rfl
  rotate_left
  · simp only [Act.put, List.setIfInBounds_toArray, List.set_cons_zero, List.set_cons_succ, i64_w, i32_w]
    rfl
  refine one_ (i := 22) (N := some 51) #[true, true, true, true, true, true, true, true, true, true, true, true, true, true, true, true, true, true, true, true, true, true, true, false, false, false, false, false, false] rfl rfl (by kernel_rfl) (by decide) (fun K hK => ?_)
  refine goes_ Tryd.func12 (by kernel_rfl) rfl #[.slice A3 b.length c3] (by rfl) rfl rfl (by simp only [List.map_toArray, List.map_cons, List.map_nil]; rfl) ?_
  with_reducible refine (drumlineref1_Copy.calls A3 c3 b b _ HC0.out HCL.out (copy_ok HBL.out)).mono ?_
  rintro e w3 ⟨v3, rfl, ho3, hb3⟩
  obtain ⟨A4, c4, rfl⟩ := Kd.R_slice ho3
  have HB3 := Aside0.mk (HB0.out.trans (hb3.mono (Nat.le_of_lt (blk_lt HX0.out))))
  have HX3 := Aside0.mk ((hb3.block xb (blk_lt HX0.out)).trans HX0.out)
  have HG3 := Aside0.mk ((hb3.block g (blk_lt HG0.out)).trans HG0.out)
  have HR3 := Aside0.mk (Kd.R_below HR0.out hb3)
  clear ho3 hb3
  refine ⟨_, rfl, ?_⟩
  refine hK.out _ _ ⟨((blk_cell HG3.out 7).trans rfl), ((blk_cell HX3.out 0).trans rfl), ((blk_cell HX3.out 2).trans rfl), ((blk_cell HG3.out 1).trans rfl), ((blk_cell HX3.out 3).trans rfl)⟩ (fun hHeld => ?_)
  clear hK K
  refine norm_ (a' := ?_) ?_ ?_
  rotate_left
  · show Act.put _ (some 51) _ = _
    simp only [Act.put, List.setIfInBounds_toArray, List.set_cons_zero, List.set_cons_succ, i64_w, i32_w]
    rfl
  refine pure_ (i := 23) (N := some 52) (v := ?_) (a' := ?_) #[true, true, true, true, true, true, true, true, true, true, true, true, true, true, true, true, true, true, true, true, true, true, true, true, false, false, false, false, false] rfl rfl (by kernel_rfl) (fun _ _ _ h => h) (Or.inl ⟨by rfl, ?_⟩) ?_ ?_
  rotate_left
  · intro w'
    go_simp
    with_reducible rfl
  rotate_left
  · simp only [Act.put, List.setIfInBounds_toArray, List.set_cons_zero, List.set_cons_succ, i64_w, i32_w]
    rfl
  refine one_ (i := 24) (N := some 53) #[true, true, true, true, true, true, true, true, true, true, true, true, true, true, true, true, true, true, true, true, true, true, true, true, true, false, false, false, false] rfl rfl (by kernel_rfl) (by decide) (fun K hK => ?_)
  refine value_ (w1 := ?_) (v := ?_) (by rfl) rfl ?_ ?_
  rotate_left 2
  · go_simp
    constructor
    · rfl
    · rfl
  have kb4 := below_alloc (Below.refl w3.heap.size w3) (.cells #[.int .i64 0, .int .i64 sq, .bool (wrap64 (sq - 1) != f 0), .slice A4 b.length c4] 52)
  have HX4 := Aside0.mk ((kb4.block xb (blk_lt HX3.out)).trans HX3.out)
  have HG4 := Aside0.mk ((kb4.block g (blk_lt HG3.out)).trans HG3.out)
  clear kb4
  refine hK.out _ _ ⟨((blk_cell HG4.out 7).trans rfl), ((blk_cell HX4.out 0).trans rfl), ((blk_cell HX4.out 2).trans rfl), ((blk_cell HG4.out 1).trans rfl), ((blk_cell HX4.out 3).trans rfl)⟩ (fun hHeld => ?_)
  clear hK K
  refine norm_ (a' := ?_) ?_ ?_
  rotate_left
  · show Act.put _ (some 53) _ = _
    simp only [Act.put, List.setIfInBounds_toArray, List.set_cons_zero, List.set_cons_succ, i64_w, i32_w]
    rfl
  refine one_ (i := 25) (N := some 54) #[true, true, true, true, true, true, true, true, true, true, true, true, true, true, true, true, true, true, true, true, true, true, true, true, true, true, false, false, false] rfl rfl (by kernel_rfl) (by decide) (fun K hK => ?_)
  refine Kd.R_append_step lgk (w0 := w3) base (by rfl) (.tmp 33) (.tmp 53) 22 52 (.agg #[.int .i64 0, .int .i64 0, .bool false, .slice none 0 0]) 48 rfl Tryd.underlying22 hinfoG rfl (by decide) (by omega) (.slice A L.length c) L (⟨0, sq, (wrap64 (sq - 1) != f 0), b⟩ : S52) [.int .i64 0, .int .i64 sq, .bool (wrap64 (sq - 1) != f 0), .slice A4 b.length c4] (fun k => k ≠ g ∧ k ≠ xb) (fun _ => False) rfl rfl ⟨A4, _, c4, rfl⟩ (fun _ hk => hk.elim) (fun k hk => ⟨(by have := blk_lt HG3.out; omega), (by have := blk_lt HX3.out; omega)⟩) HR3.out (Below.refl _ _) (by have := blk_lt HG3.out; omega) (by have := HLL.out; omega) ?_
  intro v5 w5 ho5 hb5 hg5 hat5
  obtain ⟨A5, c5, rfl⟩ := Kd.R_slice ho5
  have HB5 := Aside0.mk hb5
  have HX5 := Aside0.mk ((hg5.block xb (blk_lt HX3.out) (fun e => (HR3.out.1 xb e.symm).2 rfl)).trans HX3.out)
  have HG5 := Aside0.mk ((hg5.block g (blk_lt HG3.out) (fun e => (HR3.out.1 g e.symm).1 rfl)).trans HG3.out)
  have HR5 := Aside0.mk ho5
  have f7 := blk_frozen HG5.out 7
  clear ho5 hb5 hg5 hat5
  refine hK.out _ _ ⟨((blk_cell HG5.out 7).trans rfl), ((blk_cell HX5.out 0).trans rfl), ((blk_cell HX5.out 2).trans rfl), ((blk_cell HG5.out 1).trans rfl), ((blk_cell HX5.out 3).trans rfl)⟩ (fun hHeld => ?_)
  clear hK K
  refine norm_ (a' := ?_) ?_ ?_
  rotate_left
  · show Act.put _ (some 54) _ = _
    simp only [Act.put, List.setIfInBounds_toArray, List.set_cons_zero, List.set_cons_succ, i64_w, i32_w]
    rfl
  refine pure_ (i := 26) (N := some 55) (v := ?_) (a' := ?_) #[true, true, true, true, true, true, true, true, true, true, true, true, true, true, true, true, true, true, true, true, true, true, true, true, true, true, true, false, false] rfl rfl (by kernel_rfl) (fun _ _ _ h => h) (Or.inl ⟨by rfl, ?_⟩) ?_ ?_
  rotate_left
  · intro w'
    go_simp
    with_reducible rfl
  rotate_left
  · simp only [Act.put, List.setIfInBounds_toArray, List.set_cons_zero, List.set_cons_succ, i64_w, i32_w]
    rfl
  refine pure_ (i := 27) (N := some 56) (v := ?_) (a' := ?_) #[true, true, true, true, true, true, true, true, true, true, true, true, true, true, true, true, true, true, true, true, true, true, true, true, true, true, true, true, false] rfl rfl (by kernel_rfl) (fun _ _ _ h => h) (Or.inl ⟨by rfl, ?_⟩) ?_ ?_
  rotate_left
  · intro w'
    go_simp
    with_reducible rfl
  rotate_left
  · simp only [Act.put, List.setIfInBounds_toArray, List.set_cons_zero, List.set_cons_succ, i64_w, i32_w]
    rfl
  refine last_ (i := 28) (N := none) #[true, true, true, true, true, true, true, true, true, true, true, true, true, true, true, true, true, true, true, true, true, true, true, true, true, true, true, true, true] rfl rfl (by kernel_rfl) (by decide) (fun K hK => ?_)
  refine skip_ (w1 := ?_) (by rfl) rfl ?_ ?_
  rotate_left
  · go_simp
    rfl
  refine hK.out _ _ ?_
  clear hK K
  refine done_ (by kernel_rfl) ?_
  have hlen : (L ++ [(⟨0, sq, (wrap64 (sq - 1) != f 0), b⟩ : S52)]).length = L.length + 1 := by simp
  have HG6 := Aside0.mk (blk_set HG5.out 7 (.slice A5 (L.length + 1) c5))
  have HX6 := Aside0.mk (blk_far (p := ⟨g, 7, none⟩) HX5.out (show xb ≠ g by have := HLT.out; omega) (.slice A5 (L.length + 1) c5))
  have HR6 := Aside0.mk (Kd.R_far (p := ⟨g, 7, none⟩) HR5.out (fun k hk => hk.1) (.slice A5 (L.length + 1) c5))
  have HB6 : Aside0 (Below base w (w5.setCell ⟨g, 7, none⟩ (.slice A5 (L.length + 1) c5))) := ⟨((HB3.out.mono (Nat.le_trans lo (Nat.le_of_lt HLT.out))).trans HB5.out).setCell lo _⟩
  have HLEN := Aside0.mk hlen
  clear hlen f7
  generalize w5.setCell ⟨g, 7, none⟩ (.slice A5 (L.length + 1) c5) = w6 at *
  have x0 : w6.cell? ⟨xb, 0, none⟩ = some (.int .i64 0) := (blk_cell HX6.out 0).trans rfl
  have x2 : w6.cell? ⟨xb, 2, none⟩ = some (.int .i64 sq) := (blk_cell HX6.out 2).trans rfl
  have c1 : w6.cell? ⟨g, 1, none⟩ = some (.int .i64 (f 0)) := (blk_cell HG6.out 1).trans rfl
  have z1 := blk_frozen HG6.out 1
  go_wp2
  go_region
  all_goals go_wp2
  all_goals
    go_ret
    refine ⟨rfl, ⟨⟨A5, c5, ?_, ?_⟩, lo⟩, (below_drew HB6.out).setCell lo _⟩
    · have : (w6.setCell ⟨g, 1, none⟩ (.int .i64 sq)).drew.heap[g]? = _ := blk_set (w := w6) HG6.out 1 (.int .i64 sq)
      rw [HLEN.out]
      simpa using this
    · exact Kd.R_mono (Kd.R_far (p := ⟨g, 1, none⟩) (Kd.R_drew HR6.out) (fun k hk => hk.1) _) (fun k hk => hk.1)
set_option maxHeartbeats 8000000 in
theorem hand_yes1 (tt sq : Int) (A3 : Option Addr) (c3 : Nat) (b : List Int) (w : World) (H : Lg w base g f L) (hC : Kd.C (Kd.int .u8) w A3 b.length b) (hcl : b.length ≤ c3) (hbl : b.length < 140737488355328) (hL : L.length ≤ 1000) (h : f 1 < sq) :
    Calls Tryd.prog 6 #[.pointer (some ⟨g, 0, none⟩), .agg #[.int .i64 1, .int .i64 tt, .int .i64 sq, .slice A3 b.length c3]] w fun e w' => e = .returned (.bool true) ∧ Lg w' base g (fun i => if i = 1 then sq else f i) (L ++ [(⟨1, sq, (wrap64 (sq - 1) != f 1), b⟩ : S52)]) ∧ Below base w w' := by
  have HC := Aside0.mk hC
  have HCL := Aside0.mk hcl
  have HBL := Aside0.mk hbl
  have HLL := Aside0.mk hL
  clear hC hcl hbl hL
  have d1 : decide (sq ≤ f 1) = false := decide_eq_false (by omega)
  obtain ⟨⟨A, c, hb, hr⟩, lo⟩ := H
  have HH := Aside0.mk (Lg.mk (f := f) (L := L) ⟨A, c, hb, hr⟩ lo)
  have HG := Aside0.mk hb
  have HLT := Aside0.mk (blk_lt hb)
  have HRW : Aside0 (Kd.R lgk 52 w base (fun k => k ≠ g ∧ k ≠ w.heap.size) (.slice A L.length c) L) := ⟨Kd.R_mono (Kd.R_bound hr) (fun k hk => ⟨hk.1, Nat.ne_of_lt hk.2.2.1⟩)⟩
  clear hr hb
  go_enter Tryd.func6, Tryd.ntmps6
  go_wp2
  have kb := below_alloc (Below.refl w.heap.size w) (.cells #[.int .i64 1, .int .i64 tt, .int .i64 sq, .slice A3 b.length c3] 30)
  have HX := Aside0.mk (heap_alloc_new w (.cells #[.int .i64 1, .int .i64 tt, .int .i64 sq, .slice A3 b.length c3] 30))
  have H1 := Aside0.mk (HH.out.more kb)
  have HG1 := Aside0.mk ((kb.block g (blk_lt HG.out)).trans HG.out)
  have HB := Aside0.mk kb
  have HRW_ := Aside0.mk (Kd.R_below HRW.out kb)
  have HRW := HRW_
  have HC1 := Aside0.mk (Kd.C_below HC.out kb)
  clear HRW_ kb
  generalize w.alloc (.cells #[.int .i64 1, .int .i64 tt, .int .i64 sq, .slice A3 b.length c3] 30) = w1 at *
  generalize w.heap.size = xb at *
  have x0 : w1.cell? ⟨xb, 0, none⟩ = some (.int .i64 1) := (blk_cell HX.out 0).trans rfl
  have x2 : w1.cell? ⟨xb, 2, none⟩ = some (.int .i64 sq) := (blk_cell HX.out 2).trans rfl
  have c0 : w1.cell? ⟨g, 0, none⟩ = some (.int .i64 6) := (blk_cell HG1.out 0).trans rfl
  have c1 : w1.cell? ⟨g, 2, none⟩ = some (.int .i64 (f 1)) := (blk_cell HG1.out 2).trans rfl
  go_quiet (fail)
  go_wp2
  have HB0 : Aside0 (Below xb w (w1.drewN nq).drew) := ⟨pw_below_drewN HB.out (nq + 1)⟩
  have HX0 : Aside0 ((w1.drewN nq).drew.heap[xb]? = _) := ⟨HX.out⟩
  have HG0 : Aside0 ((w1.drewN nq).drew.heap[g]? = _) := ⟨HG1.out⟩
  have HC0 : Aside0 (Kd.C (Kd.int .u8) (w1.drewN nq).drew A3 b.length b) := Aside0.mk (Kd.C_below HC1.out (pw_below_drewN (Below.refl w1.heap.size w1) (nq + 1)))
  have HR0 : Aside0 (Kd.R lgk 52 (w1.drewN nq).drew base (fun k => k ≠ g ∧ k ≠ xb) (.slice A L.length c) L) := Aside0.mk (Kd.R_below (Kd.R_drewN HRW.out nq) (pw_below_drewN (Below.refl _ _) 1))
  refine start_ (n := 29) (S := fun w' => w'.cell? ⟨g, 7, none⟩ = some (.slice A L.length c) ∧ w'.cell? ⟨xb, 0, none⟩ = some (.int .i64 1) ∧ w'.cell? ⟨xb, 2, none⟩ = some (.int .i64 sq) ∧ w'.cell? ⟨g, 2, none⟩ = some (.int .i64 (f 1)) ∧ w'.cell? ⟨xb, 3, none⟩ = some (.slice A3 b.length c3)) (ds := [28]) #[false, false, false, false, false, false, false, false, false, false, false, false, false, false, false, false, false, false, false, false, false, false, false, false, false, false, false, false, false] (by kernel_rfl) rfl rfl ⟨((blk_cell HG0.out 7).trans rfl), ((blk_cell HX0.out 0).trans rfl), ((blk_cell HX0.out 2).trans rfl), ((blk_cell HG0.out 2).trans rfl), ((blk_cell HX0.out 3).trans rfl)⟩ (fun hHeld => ?_)
  generalize (w1.drewN nq).drew = wd at HB0 HX0 HG0 HR0 HC0 hHeld ⊢
  refine pure_ (i := 0) (N := some 29) (v := ?_) (a' := ?_) #[true, false, false, false, false, false, false, false, false, false, false, false, false, false, false, false, false, false, false, false, false, false, false, false, false, false, false, false, false] rfl rfl (by kernel_rfl) (fun _ _ _ h => h) (Or.inl ⟨by rfl, ?_⟩) ?_ ?_
  rotate_left
  · intro w'
    go_simp
    with_reducible rfl
  rotate_left
  · simp only [Act.put, List.setIfInBounds_toArray, List.set_cons_zero, List.set_cons_succ, i64_w, i32_w]
    rfl
  refine pure_ (i := 1) (N := some 30) (v := ?_) (a' := ?_) #[true, true, false, false, false, false, false, false, false, false, false, false, false, false, false, false, false, false, false, false, false, false, false, false, false, false, false, false, false] rfl rfl (by kernel_rfl) (fun _ _ _ h => h) (Or.inl ⟨by rfl, ?_⟩) ?_ ?_
  rotate_left
  · intro w'
    go_simp
    with_reducible rfl
  rotate_left
  · simp only [Act.put, List.setIfInBounds_toArray, List.set_cons_zero, List.set_cons_succ, i64_w, i32_w]
    rfl
  refine pure_ (i := 2) (N := some 31) (v := ?_) (a' := ?_) #[true, true, true, false, false, false, false, false, false, false, false, false, false, false, false, false, false, false, false, false, false, false, false, false, false, false, false, false, false] rfl rfl (by kernel_rfl) (fun _ _ _ h => h) (Or.inl ⟨by rfl, ?_⟩) ?_ ?_
  rotate_left
  · intro w'
    go_simp
    with_reducible rfl
  rotate_left
  · simp only [Act.put, List.setIfInBounds_toArray, List.set_cons_zero, List.set_cons_succ, i64_w, i32_w]
    rfl
  refine pure_ (i := 3) (N := some 32) (v := ?_) (a' := ?_) #[true, true, true, true, false, false, false, false, false, false, false, false, false, false, false, false, false, false, false, false, false, false, false, false, false, false, false, false, false] rfl rfl (by kernel_rfl) (fun _ _ _ h => h) (Or.inl ⟨by rfl, ?_⟩) ?_ ?_
  rotate_left
  · intro w'
    go_simp
    with_reducible rfl
  rotate_left
  · simp only [Act.put, List.setIfInBounds_toArray, List.set_cons_zero, List.set_cons_succ, i64_w, i32_w]
    rfl
  refine pure_ (i := 5) (N := some 34) (v := ?_) (a' := ?_) #[true, true, true, true, false, true, false, false, false, false, false, false, false, false, false, false, false, false, false, false, false, false, false, false, false, false, false, false, false] rfl rfl (by kernel_rfl) (fun _ _ _ h => h) (Or.inl ⟨by rfl, ?_⟩) ?_ ?_
  rotate_left
  · intro w'
    go_simp
    with_reducible rfl
  rotate_left
  · simp only [Act.put, List.setIfInBounds_toArray, List.set_cons_zero, List.set_cons_succ, i64_w, i32_w]
    rfl
  refine pure_ (i := 7) (N := some 36) (v := ?_) (a' := ?_) #[true, true, true, true, false, true, false, true, false, false, false, false, false, false, false, false, false, false, false, false, false, false, false, false, false, false, false, false, false] rfl rfl (by kernel_rfl) (fun _ _ _ h => h) (Or.inl ⟨by rfl, ?_⟩) ?_ ?_
  rotate_left
  · intro w'
    go_simp
    with_reducible rfl
  rotate_left
  · simp only [Act.put, List.setIfInBounds_toArray, List.set_cons_zero, List.set_cons_succ, i64_w, i32_w]
    rfl
  refine pure_ (i := 9) (N := some 38) (v := ?_) (a' := ?_) #[true, true, true, true, false, true, false, true, false, true, false, false, false, false, false, false, false, false, false, false, false, false, false, false, false, false, false, false, false] rfl rfl (by kernel_rfl) (fun _ _ _ h => h) (Or.inl ⟨by rfl, ?_⟩) ?_ ?_
  rotate_left
  · intro w'
    go_simp
    with_reducible rfl
  rotate_left
  · simp only [Act.put, List.setIfInBounds_toArray, List.set_cons_zero, List.set_cons_succ, i64_w, i32_w]
    rfl
  refine pure_ (i := 12) (N := some 41) (v := ?_) (a' := ?_) #[true, true, true, true, false, true, false, true, false, true, false, false, true, false, false, false, false, false, false, false, false, false, false, false, false, false, false, false, false] rfl rfl (by kernel_rfl) (fun _ _ _ h => h) (Or.inl ⟨by rfl, ?_⟩) ?_ ?_
  rotate_left
  · intro w'
    go_simp
    with_reducible rfl
  rotate_left
  · simp only [Act.put, List.setIfInBounds_toArray, List.set_cons_zero, List.set_cons_succ, i64_w, i32_w]
    rfl
  refine pure_ (i := 13) (N := some 42) (v := ?_) (a' := ?_) #[true, true, true, true, false, true, false, true, false, true, false, false, true, true, false, false, false, false, false, false, false, false, false, false, false, false, false, false, false] rfl rfl (by kernel_rfl) (fun _ _ _ h => h) (Or.inl ⟨by rfl, ?_⟩) ?_ ?_
  rotate_left
  · intro w'
    go_simp
    with_reducible rfl
  rotate_left
  · simp only [Act.put, List.setIfInBounds_toArray, List.set_cons_zero, List.set_cons_succ, i64_w, i32_w]
    rfl
  refine pure_ (i := 15) (N := some 44) (v := ?_) (a' := ?_) #[true, true, true, true, false, true, false, true, false, true, false, false, true, true, false, true, false, false, false, false, false, false, false, false, false, false, false, false, false] rfl rfl (by kernel_rfl) (fun _ _ _ h => h) (Or.inl ⟨by rfl, ?_⟩) ?_ ?_
  rotate_left
  · intro w'
    go_simp
    with_reducible rfl
  rotate_left
  · simp only [Act.put, List.setIfInBounds_toArray, List.set_cons_zero, List.set_cons_succ, i64_w, i32_w]
    rfl
  refine pure_ (i := 16) (N := some 45) (v := ?_) (a' := ?_) #[true, true, true, true, false, true, false, true, false, true, false, false, true, true, false, true, true, false, false, false, false, false, false, false, false, false, false, false, false] rfl rfl (by kernel_rfl) (fun _ _ _ h => h) (Or.inl ⟨by rfl, ?_⟩) ?_ ?_
  rotate_left
  · intro w'
    go_simp
    with_reducible rfl
  rotate_left
  · simp only [Act.put, List.setIfInBounds_toArray, List.set_cons_zero, List.set_cons_succ, i64_w, i32_w]
    rfl
  refine pure_ (i := 20) (N := some 49) (v := ?_) (a' := ?_) #[true, true, true, true, false, true, false, true, false, true, false, false, true, true, false, true, true, false, false, false, true, false, false, false, false, false, false, false, false] rfl rfl (by kernel_rfl) (fun _ _ _ h => h) (Or.inl ⟨by rfl, ?_⟩) ?_ ?_
  rotate_left
  · intro w'
    go_simp
    with_reducible rfl
  rotate_left
  · simp only [Act.put, List.setIfInBounds_toArray, List.set_cons_zero, List.set_cons_succ, i64_w, i32_w]
    rfl
  refine take_ (i := 4) (N := some 33) (v := ?_) (a' := ?_) #[true, true, true, true, true, true, false, true, false, true, false, false, true, true, false, true, true, false, false, false, true, false, false, false, false, false, false, false, false] rfl rfl (by kernel_rfl) (fun _ _ _ h => h) (Or.inl ⟨by rfl, ?_⟩) hHeld ?_ ?_
  rotate_left
  · rintro w' ⟨s0, s1, s2, s3, s4⟩
    go_simp
    with_reducible rfl
  rotate_left
  · simp only [Act.put, List.setIfInBounds_toArray, List.set_cons_zero, List.set_cons_succ, i64_w, i32_w]
    rfl
  refine take_ (i := 6) (N := some 35) (v := ?_) (a' := ?_) #[true, true, true, true, true, true, true, true, false, true, false, false, true, true, false, true, true, false, false, false, true, false, false, false, false, false, false, false, false] rfl rfl (by kernel_rfl) (fun _ _ _ h => h) (Or.inl ⟨by rfl, ?_⟩) hHeld ?_ ?_
  rotate_left
  · rintro w' ⟨s0, s1, s2, s3, s4⟩
    go_simp
    with_reducible rfl
  rotate_left
  · simp only [Act.put, List.setIfInBounds_toArray, List.set_cons_zero, List.set_cons_succ, i64_w, i32_w]
    rfl
  refine take_ (i := 8) (N := some 37) (v := ?_) (a' := ?_) #[true, true, true, true, true, true, true, true, true, true, false, false, true, true, false, true, true, false, false, false, true, false, false, false, false, false, false, false, false] rfl rfl (by kernel_rfl) (fun _ _ _ h => h) (Or.inl ⟨by rfl, ?_⟩) hHeld ?_ ?_
  rotate_left
  · rintro w' ⟨s0, s1, s2, s3, s4⟩
    go_simp
    with_reducible rfl
  rotate_left
  · simp only [Act.put, List.setIfInBounds_toArray, List.set_cons_zero, List.set_cons_succ, i64_w, i32_w]
    rfl
  refine take_ (i := 10) (N := some 39) (v := ?_) (a' := ?_) #[true, true, true, true, true, true, true, true, true, true, true, false, true, true, false, true, true, false, false, false, true, false, false, false, false, false, false, false, false] rfl rfl (by kernel_rfl) (fun _ _ _ h => h) (Or.inl ⟨by rfl, ?_⟩) hHeld ?_ ?_
  rotate_left
  · rintro w' ⟨s0, s1, s2, s3, s4⟩
    go_simp
    with_reducible rfl
  rotate_left
  · simp only [Act.put, List.setIfInBounds_toArray, List.set_cons_zero, List.set_cons_succ, i64_w, i32_w]
    rfl
  refine pure_ (i := 11) (N := some 40) (v := ?_) (a' := ?_) #[true, true, true, true, true, true, true, true, true, true, true, true, true, true, false, true, true, false, false, false, true, false, false, false, false, false, false, false, false] rfl rfl (by kernel_rfl) (fun _ _ _ h => h) (Or.inl ⟨by rfl, ?_⟩) ?_ ?_
  rotate_left
  · intro w'
    go_simp
    with_reducible rfl
  rotate_left
  · simp only [Act.put, List.setIfInBounds_toArray, List.set_cons_zero, List.set_cons_succ, i64_w, i32_w]
    rfl
  refine take_ (i := 14) (N := some 43) (v := ?_) (a' := ?_) #[true, true, true, true, true, true, true, true, true, true, true, true, true, true, true, true, true, false, false, false, true, false, false, false, false, false, false, false, false] rfl rfl (by kernel_rfl) (fun _ _ _ h => h) (Or.inl ⟨by rfl, ?_⟩) hHeld ?_ ?_
  rotate_left
  · rintro w' ⟨s0, s1, s2, s3, s4⟩
    go_simp
    with_reducible rfl
  rotate_left
  · simp only [Act.put, List.setIfInBounds_toArray, List.set_cons_zero, List.set_cons_succ, i64_w, i32_w]
    rfl
  refine pure_ (i := 17) (N := some 46) (v := ?_) (a' := ?_) #[true, true, true, true, true, true, true, true, true, true, true, true, true, true, true, true, true, true, false, false, true, false, false, false, false, false, false, false, false] rfl rfl (by kernel_rfl) (fun _ _ _ h => h) (Or.inl ⟨by rfl, ?_⟩) ?_ ?_
  rotate_left
  · intro w'
    go_simp
    with_reducible rfl
  rotate_left
  · simp only [Act.put, List.setIfInBounds_toArray, List.set_cons_zero, List.set_cons_succ, i64_w, i32_w]
    rfl
  refine take_ (i := 18) (N := some 47) (v := ?_) (a' := ?_) #[true, true, true, true, true, true, true, true, true, true, true, true, true, true, true, true, true, true, true, false, true, false, false, false, false, false, false, false, false] rfl rfl (by kernel_rfl) (fun _ _ _ h => h) (Or.inl ⟨by rfl, ?_⟩) hHeld ?_ ?_
  rotate_left
  · rintro w' ⟨s0, s1, s2, s3, s4⟩
    go_simp
    with_reducible rfl
  rotate_left
  · simp only [Act.put, List.setIfInBounds_toArray, List.set_cons_zero, List.set_cons_succ, i64_w, i32_w]
    rfl
  refine pure_ (i := 19) (N := some 48) (v := ?_) (a' := ?_) #[true, true, true, true, true, true, true, true, true, true, true, true, true, true, true, true, true, true, true, true, true, false, false, false, false, false, false, false, false] rfl rfl (by kernel_rfl) (fun _ _ _ h => h) (Or.inl ⟨by rfl, ?_⟩) ?_ ?_
  rotate_left
  · intro w'
    go_simp
    with_reducible rfl
  rotate_left
  · simp only [Act.put, List.setIfInBounds_toArray, List.set_cons_zero, List.set_cons_succ, i64_w, i32_w]
    rfl
  refine take_ (i := 21) (N := some 50) (v := ?_) (a' := ?_) #[true, true, true, true, true, true, true, true, true, true, true, true, true, true, true, true, true, true, true, true, true, true, false, false, false, false, false, false, false] rfl rfl (by kernel_rfl) (fun _ _ _ h => h) (Or.inl ⟨by rfl, ?_⟩) hHeld ?_ ?_
  rotate_left
  · rintro w' ⟨s0, s1, s2, s3, s4⟩
    go_simp
    with_reducible rfl
  rotate_left
  · simp only [Act.put, List.setIfInBounds_toArray, List.set_cons_zero, List.set_cons_succ, i64_w, i32_w]
    rfl
  refine one_ (i := 22) (N := some 51) #[true, true, true, true, true, true, true, true, true, true, true, true, true, true, true, true, true, true, true, true, true, true, true, false, false, false, false, false, false] rfl rfl (by kernel_rfl) (by decide) (fun K hK => ?_)
  refine goes_ Tryd.func12 (by kernel_rfl) rfl #[.slice A3 b.length c3] (by rfl) rfl rfl (by simp only [List.map_toArray, List.map_cons, List.map_nil]; rfl) ?_
  with_reducible refine (drumlineref1_Copy.calls A3 c3 b b _ HC0.out HCL.out (copy_ok HBL.out)).mono ?_
  rintro e w3 ⟨v3, rfl, ho3, hb3⟩
  obtain ⟨A4, c4, rfl⟩ := Kd.R_slice ho3
  have HB3 := Aside0.mk (HB0.out.trans (hb3.mono (Nat.le_of_lt (blk_lt HX0.out))))
  have HX3 := Aside0.mk ((hb3.block xb (blk_lt HX0.out)).trans HX0.out)
  have HG3 := Aside0.mk ((hb3.block g (blk_lt HG0.out)).trans HG0.out)
  have HR3 := Aside0.mk (Kd.R_below HR0.out hb3)
  clear ho3 hb3
  refine ⟨_, rfl, ?_⟩
  refine hK.out _ _ ⟨((blk_cell HG3.out 7).trans rfl), ((blk_cell HX3.out 0).trans rfl), ((blk_cell HX3.out 2).trans rfl), ((blk_cell HG3.out 2).trans rfl), ((blk_cell HX3.out 3).trans rfl)⟩ (fun hHeld => ?_)
  clear hK K
  refine norm_ (a' := ?_) ?_ ?_
  rotate_left
  · show Act.put _ (some 51) _ = _
    simp only [Act.put, List.setIfInBounds_toArray, List.set_cons_zero, List.set_cons_succ, i64_w, i32_w]
    rfl
  refine pure_ (i := 23) (N := some 52) (v := ?_) (a' := ?_) #[true, true, true, true, true, true, true, true, true, true, true, true, true, true, true, true, true, true, true, true, true, true, true, true, false, false, false, false, false] rfl rfl (by kernel_rfl) (fun _ _ _ h => h) (Or.inl ⟨by rfl, ?_⟩) ?_ ?_
  rotate_left
  · intro w'
    go_simp
    with_reducible rfl
  rotate_left
  · simp only [Act.put, List.setIfInBounds_toArray, List.set_cons_zero, List.set_cons_succ, i64_w, i32_w]
    rfl
  refine one_ (i := 24) (N := some 53) #[true, true, true, true, true, true, true, true, true, true, true, true, true, true, true, true, true, true, true, true, true, true, true, true, true, false, false, false, false] rfl rfl (by kernel_rfl) (by decide) (fun K hK => ?_)
  refine value_ (w1 := ?_) (v := ?_) (by rfl) rfl ?_ ?_
  rotate_left 2
  · go_simp
    constructor
    · rfl
    · rfl
  have kb4 := below_alloc (Below.refl w3.heap.size w3) (.cells #[.int .i64 1, .int .i64 sq, .bool (wrap64 (sq - 1) != f 1), .slice A4 b.length c4] 52)
  have HX4 := Aside0.mk ((kb4.block xb (blk_lt HX3.out)).trans HX3.out)
  have HG4 := Aside0.mk ((kb4.block g (blk_lt HG3.out)).trans HG3.out)
  clear kb4
  refine hK.out _ _ ⟨((blk_cell HG4.out 7).trans rfl), ((blk_cell HX4.out 0).trans rfl), ((blk_cell HX4.out 2).trans rfl), ((blk_cell HG4.out 2).trans rfl), ((blk_cell HX4.out 3).trans rfl)⟩ (fun hHeld => ?_)
  clear hK K
  refine norm_ (a' := ?_) ?_ ?_
  rotate_left
  · show Act.put _ (some 53) _ = _
    simp only [Act.put, List.setIfInBounds_toArray, List.set_cons_zero, List.set_cons_succ, i64_w, i32_w]
    rfl
  refine one_ (i := 25) (N := some 54) #[true, true, true, true, true, true, true, true, true, true, true, true, true, true, true, true, true, true, true, true, true, true, true, true, true, true, false, false, false] rfl rfl (by kernel_rfl) (by decide) (fun K hK => ?_)
  refine Kd.R_append_step lgk (w0 := w3) base (by rfl) (.tmp 33) (.tmp 53) 22 52 (.agg #[.int .i64 0, .int .i64 0, .bool false, .slice none 0 0]) 48 rfl Tryd.underlying22 hinfoG rfl (by decide) (by omega) (.slice A L.length c) L (⟨1, sq, (wrap64 (sq - 1) != f 1), b⟩ : S52) [.int .i64 1, .int .i64 sq, .bool (wrap64 (sq - 1) != f 1), .slice A4 b.length c4] (fun k => k ≠ g ∧ k ≠ xb) (fun _ => False) rfl rfl ⟨A4, _, c4, rfl⟩ (fun _ hk => hk.elim) (fun k hk => ⟨(by have := blk_lt HG3.out; omega), (by have := blk_lt HX3.out; omega)⟩) HR3.out (Below.refl _ _) (by have := blk_lt HG3.out; omega) (by have := HLL.out; omega) ?_
  intro v5 w5 ho5 hb5 hg5 hat5
  obtain ⟨A5, c5, rfl⟩ := Kd.R_slice ho5
  have HB5 := Aside0.mk hb5
  have HX5 := Aside0.mk ((hg5.block xb (blk_lt HX3.out) (fun e => (HR3.out.1 xb e.symm).2 rfl)).trans HX3.out)
  have HG5 := Aside0.mk ((hg5.block g (blk_lt HG3.out) (fun e => (HR3.out.1 g e.symm).1 rfl)).trans HG3.out)
  have HR5 := Aside0.mk ho5
  have f7 := blk_frozen HG5.out 7
  clear ho5 hb5 hg5 hat5
  refine hK.out _ _ ⟨((blk_cell HG5.out 7).trans rfl), ((blk_cell HX5.out 0).trans rfl), ((blk_cell HX5.out 2).trans rfl), ((blk_cell HG5.out 2).trans rfl), ((blk_cell HX5.out 3).trans rfl)⟩ (fun hHeld => ?_)
  clear hK K
  refine norm_ (a' := ?_) ?_ ?_
  rotate_left
  · show Act.put _ (some 54) _ = _
    simp only [Act.put, List.setIfInBounds_toArray, List.set_cons_zero, List.set_cons_succ, i64_w, i32_w]
    rfl
  refine pure_ (i := 26) (N := some 55) (v := ?_) (a' := ?_) #[true, true, true, true, true, true, true, true, true, true, true, true, true, true, true, true, true, true, true, true, true, true, true, true, true, true, true, false, false] rfl rfl (by kernel_rfl) (fun _ _ _ h => h) (Or.inl ⟨by rfl, ?_⟩) ?_ ?_
  rotate_left
  · intro w'
    go_simp
    with_reducible rfl
  rotate_left
  · simp only [Act.put, List.setIfInBounds_toArray, List.set_cons_zero, List.set_cons_succ, i64_w, i32_w]
    rfl
  refine pure_ (i := 27) (N := some 56) (v := ?_) (a' := ?_) #[true, true, true, true, true, true, true, true, true, true, true, true, true, true, true, true, true, true, true, true, true, true, true, true, true, true, true, true, false] rfl rfl (by kernel_rfl) (fun _ _ _ h => h) (Or.inl ⟨by rfl, ?_⟩) ?_ ?_
  rotate_left
  · intro w'
    go_simp
    with_reducible rfl
  rotate_left
  · simp only [Act.put, List.setIfInBounds_toArray, List.set_cons_zero, List.set_cons_succ, i64_w, i32_w]
    rfl
  refine last_ (i := 28) (N := none) #[true, true, true, true, true, true, true, true, true, true, true, true, true, true, true, true, true, true, true, true, true, true, true, true, true, true, true, true, true] rfl rfl (by kernel_rfl) (by decide) (fun K hK => ?_)
  refine skip_ (w1 := ?_) (by rfl) rfl ?_ ?_
  rotate_left
  · go_simp
    rfl
  refine hK.out _ _ ?_
  clear hK K
  refine done_ (by kernel_rfl) ?_
  have hlen : (L ++ [(⟨1, sq, (wrap64 (sq - 1) != f 1), b⟩ : S52)]).length = L.length + 1 := by simp
  have HG6 := Aside0.mk (blk_set HG5.out 7 (.slice A5 (L.length + 1) c5))
  have HX6 := Aside0.mk (blk_far (p := ⟨g, 7, none⟩) HX5.out (show xb ≠ g by have := HLT.out; omega) (.slice A5 (L.length + 1) c5))
  have HR6 := Aside0.mk (Kd.R_far (p := ⟨g, 7, none⟩) HR5.out (fun k hk => hk.1) (.slice A5 (L.length + 1) c5))
  have HB6 : Aside0 (Below base w (w5.setCell ⟨g, 7, none⟩ (.slice A5 (L.length + 1) c5))) := ⟨((HB3.out.mono (Nat.le_trans lo (Nat.le_of_lt HLT.out))).trans HB5.out).setCell lo _⟩
  have HLEN := Aside0.mk hlen
  clear hlen f7
  generalize w5.setCell ⟨g, 7, none⟩ (.slice A5 (L.length + 1) c5) = w6 at *
  have x0 : w6.cell? ⟨xb, 0, none⟩ = some (.int .i64 1) := (blk_cell HX6.out 0).trans rfl
  have x2 : w6.cell? ⟨xb, 2, none⟩ = some (.int .i64 sq) := (blk_cell HX6.out 2).trans rfl
  have c1 : w6.cell? ⟨g, 2, none⟩ = some (.int .i64 (f 1)) := (blk_cell HG6.out 2).trans rfl
  have z1 := blk_frozen HG6.out 2
  go_wp2
  go_region
  all_goals go_wp2
  all_goals
    go_ret
    refine ⟨rfl, ⟨⟨A5, c5, ?_, ?_⟩, lo⟩, (below_drew HB6.out).setCell lo _⟩
    · have : (w6.setCell ⟨g, 2, none⟩ (.int .i64 sq)).drew.heap[g]? = _ := blk_set (w := w6) HG6.out 2 (.int .i64 sq)
      rw [HLEN.out]
      simpa using this
    · exact Kd.R_mono (Kd.R_far (p := ⟨g, 2, none⟩) (Kd.R_drew HR6.out) (fun k hk => hk.1) _) (fun k hk => hk.1)
set_option maxHeartbeats 8000000 in
theorem hand_yes2 (tt sq : Int) (A3 : Option Addr) (c3 : Nat) (b : List Int) (w : World) (H : Lg w base g f L) (hC : Kd.C (Kd.int .u8) w A3 b.length b) (hcl : b.length ≤ c3) (hbl : b.length < 140737488355328) (hL : L.length ≤ 1000) (h : f 2 < sq) :
    Calls Tryd.prog 6 #[.pointer (some ⟨g, 0, none⟩), .agg #[.int .i64 2, .int .i64 tt, .int .i64 sq, .slice A3 b.length c3]] w fun e w' => e = .returned (.bool true) ∧ Lg w' base g (fun i => if i = 2 then sq else f i) (L ++ [(⟨2, sq, (wrap64 (sq - 1) != f 2), b⟩ : S52)]) ∧ Below base w w' := by
  have HC := Aside0.mk hC
  have HCL := Aside0.mk hcl
  have HBL := Aside0.mk hbl
  have HLL := Aside0.mk hL
  clear hC hcl hbl hL
  have d1 : decide (sq ≤ f 2) = false := decide_eq_false (by omega)
  obtain ⟨⟨A, c, hb, hr⟩, lo⟩ := H
  have HH := Aside0.mk (Lg.mk (f := f) (L := L) ⟨A, c, hb, hr⟩ lo)
  have HG := Aside0.mk hb
  have HLT := Aside0.mk (blk_lt hb)
  have HRW : Aside0 (Kd.R lgk 52 w base (fun k => k ≠ g ∧ k ≠ w.heap.size) (.slice A L.length c) L) := ⟨Kd.R_mono (Kd.R_bound hr) (fun k hk => ⟨hk.1, Nat.ne_of_lt hk.2.2.1⟩)⟩
  clear hr hb
  go_enter Tryd.func6, Tryd.ntmps6
  go_wp2
  have kb := below_alloc (Below.refl w.heap.size w) (.cells #[.int .i64 2, .int .i64 tt, .int .i64 sq, .slice A3 b.length c3] 30)
  have HX := Aside0.mk (heap_alloc_new w (.cells #[.int .i64 2, .int .i64 tt, .int .i64 sq, .slice A3 b.length c3] 30))
  have H1 := Aside0.mk (HH.out.more kb)
  have HG1 := Aside0.mk ((kb.block g (blk_lt HG.out)).trans HG.out)
  have HB := Aside0.mk kb
  have HRW_ := Aside0.mk (Kd.R_below HRW.out kb)
  have HRW := HRW_
  have HC1 := Aside0.mk (Kd.C_below HC.out kb)
  clear HRW_ kb
  generalize w.alloc (.cells #[.int .i64 2, .int .i64 tt, .int .i64 sq, .slice A3 b.length c3] 30) = w1 at *
  generalize w.heap.size = xb at *
  have x0 : w1.cell? ⟨xb, 0, none⟩ = some (.int .i64 2) := (blk_cell HX.out 0).trans rfl
  have x2 : w1.cell? ⟨xb, 2, none⟩ = some (.int .i64 sq) := (blk_cell HX.out 2).trans rfl
  have c0 : w1.cell? ⟨g, 0, none⟩ = some (.int .i64 6) := (blk_cell HG1.out 0).trans rfl
  have c1 : w1.cell? ⟨g, 3, none⟩ = some (.int .i64 (f 2)) := (blk_cell HG1.out 3).trans rfl
  go_quiet (fail)
  go_wp2
  have HB0 : Aside0 (Below xb w (w1.drewN nq).drew) := ⟨pw_below_drewN HB.out (nq + 1)⟩
  have HX0 : Aside0 ((w1.drewN nq).drew.heap[xb]? = _) := ⟨HX.out⟩
  have HG0 : Aside0 ((w1.drewN nq).drew.heap[g]? = _) := ⟨HG1.out⟩
  have HC0 : Aside0 (Kd.C (Kd.int .u8) (w1.drewN nq).drew A3 b.length b) := Aside0.mk (Kd.C_below HC1.out (pw_below_drewN (Below.refl w1.heap.size w1) (nq + 1)))
  have HR0 : Aside0 (Kd.R lgk 52 (w1.drewN nq).drew base (fun k => k ≠ g ∧ k ≠ xb) (.slice A L.length c) L) := Aside0.mk (Kd.R_below (Kd.R_drewN HRW.out nq) (pw_below_drewN (Below.refl _ _) 1))
  refine start_ (n := 29) (S := fun w' => w'.cell? ⟨g, 7, none⟩ = some (.slice A L.length c) ∧ w'.cell? ⟨xb, 0, none⟩ = some (.int .i64 2) ∧ w'.cell? ⟨xb, 2, none⟩ = some (.int .i64 sq) ∧ w'.cell? ⟨g, 3, none⟩ = some (.int .i64 (f 2)) ∧ w'.cell? ⟨xb, 3, none⟩ = some (.slice A3 b.length c3)) (ds := [28]) #[false, false, false, false, false, false, false, false, false, false, false, false, false, false, false, false, false, false, false, false, false, false, false, false, false, false, false, false, false] (by kernel_rfl) rfl rfl ⟨((blk_cell HG0.out 7).trans rfl), ((blk_cell HX0.out 0).trans rfl), ((blk_cell HX0.out 2).trans rfl), ((blk_cell HG0.out 3).trans rfl), ((blk_cell HX0.out 3).trans rfl)⟩ (fun hHeld => ?_)
  generalize (w1.drewN nq).drew = wd at HB0 HX0 HG0 HR0 HC0 hHeld ⊢
  refine pure_ (i := 0) (N := some 29) (v := ?_) (a' := ?_) #[true, false, false, false, false, false, false, false, false, false, false, false, false, false, false, false, false, false, false, false, false, false, false, false, false, false, false, false, false] rfl rfl (by kernel_rfl) (fun _ _ _ h => h) (Or.inl ⟨by rfl, ?_⟩) ?_ ?_
  rotate_left
  · intro w'
    go_simp
    with_reducible rfl
  rotate_left
  · simp only [Act.put, List.setIfInBounds_toArray, List.set_cons_zero, List.set_cons_succ, i64_w, i32_w]
    rfl
  refine pure_ (i := 1) (N := some 30) (v := ?_) (a' := ?_) #[true, true, false, false, false, false, false, false, false, false, false, false, false, false, false, false, false, false, false, false, false, false, false, false, false, false, false, false, false] rfl rfl (by kernel_rfl) (fun _ _ _ h => h) (Or.inl ⟨by rfl, ?_⟩) ?_ ?_
  rotate_left
  · intro w'
    go_simp
    with_reducible rfl
  rotate_left
  · simp only [Act.put, List.setIfInBounds_toArray, List.set_cons_zero, List.set_cons_succ, i64_w, i32_w]
    rfl
  refine pure_ (i := 2) (N := some 31) (v := ?_) (a' := ?_) #[true, true, true, false, false, false, false, false, false, false, false, false, false, false, false, false, false, false, false, false, false, false, false, false, false, false, false, false, false] rfl rfl (by kernel_rfl) (fun _ _ _ h => h) (Or.inl ⟨by rfl, ?_⟩) ?_ ?_
  rotate_left
  · intro w'
    go_simp
    with_reducible rfl
  rotate_left
  · simp only [Act.put, List.setIfInBounds_toArray, List.set_cons_zero, List.set_cons_succ, i64_w, i32_w]
    rfl
  refine pure_ (i := 3) (N := some 32) (v := ?_) (a' := ?_) #[true, true, true, true, false, false, false, false, false, false, false, false, false, false, false, false, false, false, false, false, false, false, false, false, false, false, false, false, false] rfl rfl (by kernel_rfl) (fun _ _ _ h => h) (Or.inl ⟨by rfl, ?_⟩) ?_ ?_
  rotate_left
  · intro w'
    go_simp
    with_reducible rfl
  rotate_left
  · simp only [Act.put, List.setIfInBounds_toArray, List.set_cons_zero, List.set_cons_succ, i64_w, i32_w]
    rfl
  refine pure_ (i := 5) (N := some 34) (v := ?_) (a' := ?_) #[true, true, true, true, false, true, false, false, false, false, false, false, false, false, false, false, false, false, false, false, false, false, false, false, false, false, false, false, false] rfl rfl (by kernel_rfl) (fun _ _ _ h => h) (Or.inl ⟨by rfl, ?_⟩) ?_ ?_
  rotate_left
  · intro w'
    go_simp
    with_reducible rfl
  rotate_left
  · simp only [Act.put, List.setIfInBounds_toArray, List.set_cons_zero, List.set_cons_succ, i64_w, i32_w]
    rfl
  refine pure_ (i := 7) (N := some 36) (v := ?_) (a' := ?_) #[true, true, true, true, false, true, false, true, false, false, false, false, false, false, false, false, false, false, false, false, false, false, false, false, false, false, false, false, false] rfl rfl (by kernel_rfl) (fun _ _ _ h => h) (Or.inl ⟨by rfl, ?_⟩) ?_ ?_
  rotate_left
  · intro w'
    go_simp
    with_reducible rfl
  rotate_left
  · simp only [Act.put, List.setIfInBounds_toArray, List.set_cons_zero, List.set_cons_succ, i64_w, i32_w]
    rfl
  refine pure_ (i := 9) (N := some 38) (v := ?_) (a' := ?_) #[true, true, true, true, false, true, false, true, false, true, false, false, false, false, false, false, false, false, false, false, false, false, false, false, false, false, false, false, false] rfl rfl (by kernel_rfl) (fun _ _ _ h => h) (Or.inl ⟨by rfl, ?_⟩) ?_ ?_
  rotate_left
  · intro w'
    go_simp
    with_reducible rfl
  rotate_left
  · simp only [Act.put, List.setIfInBounds_toArray, List.set_cons_zero, List.set_cons_succ, i64_w, i32_w]
    rfl
  refine pure_ (i := 12) (N := some 41) (v := ?_) (a' := ?_) #[true, true, true, true, false, true, false, true, false, true, false, false, true, false, false, false, false, false, false, false, false, false, false, false, false, false, false, false, false] rfl rfl (by kernel_rfl) (fun _ _ _ h => h) (Or.inl ⟨by rfl, ?_⟩) ?_ ?_
  rotate_left
  · intro w'
    go_simp
    with_reducible rfl
  rotate_left
  · simp only [Act.put, List.setIfInBounds_toArray, List.set_cons_zero, List.set_cons_succ, i64_w, i32_w]
    rfl
  refine pure_ (i := 13) (N := some 42) (v := ?_) (a' := ?_) #[true, true, true, true, false, true, false, true, false, true, false, false, true, true, false, false, false, false, false, false, false, false, false, false, false, false, false, false, false] rfl rfl (by kernel_rfl) (fun _ _ _ h => h) (Or.inl ⟨by rfl, ?_⟩) ?_ ?_
  rotate_left
  · intro w'
    go_simp
    with_reducible rfl
  rotate_left
  · simp only [Act.put, List.setIfInBounds_toArray, List.set_cons_zero, List.set_cons_succ, i64_w, i32_w]
    rfl
  refine pure_ (i := 15) (N := some 44) (v := ?_) (a' := ?_) #[true, true, true, true, false, true, false, true, false, true, false, false, true, true, false, true, false, false, false, false, false, false, false, false, false, false, false, false, false] rfl rfl (by kernel_rfl) (fun _ _ _ h => h) (Or.inl ⟨by rfl, ?_⟩) ?_ ?_
  rotate_left
  · intro w'
    go_simp
    with_reducible rfl
  rotate_left
  · simp only [Act.put, List.setIfInBounds_toArray, List.set_cons_zero, List.set_cons_succ, i64_w, i32_w]
    rfl
  refine pure_ (i := 16) (N := some 45) (v := ?_) (a' := ?_) #[true, true, true, true, false, true, false, true, false, true, false, false, true, true, false, true, true, false, false, false, false, false, false, false, false, false, false, false, false] rfl rfl (by kernel_rfl) (fun _ _ _ h => h) (Or.inl ⟨by rfl, ?_⟩) ?_ ?_
  rotate_left
  · intro w'
    go_simp
    with_reducible rfl
  rotate_left
  · simp only [Act.put, List.setIfInBounds_toArray, List.set_cons_zero, List.set_cons_succ, i64_w, i32_w]
    rfl
  refine pure_ (i := 20) (N := some 49) (v := ?_) (a' := ?_) #[true, true, true, true, false, true, false, true, false, true, false, false, true, true, false, true, true, false, false, false, true, false, false, false, false, false, false, false, false] rfl rfl (by kernel_rfl) (fun _ _ _ h => h) (Or.inl ⟨by rfl, ?_⟩) ?_ ?_
  rotate_left
  · intro w'
    go_simp
    with_reducible rfl
  rotate_left
  · simp only [Act.put, List.setIfInBounds_toArray, List.set_cons_zero, List.set_cons_succ, i64_w, i32_w]
    rfl
  refine take_ (i := 4) (N := some 33) (v := ?_) (a' := ?_) #[true, true, true, true, true, true, false, true, false, true, false, false, true, true, false, true, true, false, false, false, true, false, false, false, false, false, false, false, false] rfl rfl (by kernel_rfl) (fun _ _ _ h => h) (Or.inl ⟨by rfl, ?_⟩) hHeld ?_ ?_
  rotate_left
  · rintro w' ⟨s0, s1, s2, s3, s4⟩
    go_simp
    with_reducible rfl
  rotate_left
  · simp only [Act.put, List.setIfInBounds_toArray, List.set_cons_zero, List.set_cons_succ, i64_w, i32_w]
    rfl
  refine take_ (i := 6) (N := some 35) (v := ?_) (a' := ?_) #[true, true, true, true, true, true, true, true, false, true, false, false, true, true, false, true, true, false, false, false, true, false, false, false, false, false, false, false, false] rfl rfl (by kernel_rfl) (fun _ _ _ h => h) (Or.inl ⟨by rfl, ?_⟩) hHeld ?_ ?_
  rotate_left
  · rintro w' ⟨s0, s1, s2, s3, s4⟩
    go_simp
    with_reducible rfl
  rotate_left
  · simp only [Act.put, List.setIfInBounds_toArray, List.set_cons_zero, List.set_cons_succ, i64_w, i32_w]
    rfl
  refine take_ (i := 8) (N := some 37) (v := ?_) (a' := ?_) #[true, true, true, true, true, true, true, true, true, true, false, false, true, true, false, true, true, false, false, false, true, false, false, false, false, false, false, false, false] rfl rfl (by kernel_rfl) (fun _ _ _ h => h) (Or.inl ⟨by rfl, ?_⟩) hHeld ?_ ?_
  rotate_left
  · rintro w' ⟨s0, s1, s2, s3, s4⟩
    go_simp
    with_reducible rfl
  rotate_left
  · simp only [Act.put, List.setIfInBounds_toArray, List.set_cons_zero, List.set_cons_succ, i64_w, i32_w]
    rfl
  refine take_ (i := 10) (N := some 39) (v := ?_) (a' := ?_) #[true, true, true, true, true, true, true, true, true, true, true, false, true, true, false, true, true, false, false, false, true, false, false, false, false, false, false, false, false] rfl rfl (by kernel_rfl) (fun _ _ _ h => h) (Or.inl ⟨by rfl, ?_⟩) hHeld ?_ ?_
  rotate_left
  · rintro w' ⟨s0, s1, s2, s3, s4⟩
    go_simp
    with_reducible rfl
  rotate_left
  · simp only [Act.put, List.setIfInBounds_toArray, List.set_cons_zero, List.set_cons_succ, i64_w, i32_w]
    rfl
  refine pure_ (i := 11) (N := some 40) (v := ?_) (a' := ?_) #[true, true, true, true, true, true, true, true, true, true, true, true, true, true, false, true, true, false, false, false, true, false, false, false, false, false, false, false, false] rfl rfl (by kernel_rfl) (fun _ _ _ h => h) (Or.inl ⟨by rfl, ?_⟩) ?_ ?_
  rotate_left
  · intro w'
    go_simp
    with_reducible rfl
  rotate_left
  · simp only [Act.put, List.setIfInBounds_toArray, List.set_cons_zero, List.set_cons_succ, i64_w, i32_w]
    rfl
  refine take_ (i := 14) (N := some 43) (v := ?_) (a' := ?_) #[true, true, true, true, true, true, true, true, true, true, true, true, true, true, true, true, true, false, false, false, true, false, false, false, false, false, false, false, false] rfl rfl (by kernel_rfl) (fun _ _ _ h => h) (Or.inl ⟨by rfl, ?_⟩) hHeld ?_ ?_
  rotate_left
  · rintro w' ⟨s0, s1, s2, s3, s4⟩
    go_simp
    with_reducible rfl
  rotate_left
  · simp only [Act.put, List.setIfInBounds_toArray, List.set_cons_zero, List.set_cons_succ, i64_w, i32_w]
    rfl
  refine pure_ (i := 17) (N := some 46) (v := ?_) (a' := ?_) #[true, true, true, true, true, true, true, true, true, true, true, true, true, true, true, true, true, true, false, false, true, false, false, false, false, false, false, false, false] rfl rfl (by kernel_rfl) (fun _ _ _ h => h) (Or.inl ⟨by rfl, ?_⟩) ?_ ?_
  rotate_left
  · intro w'
    go_simp
    with_reducible rfl
  rotate_left
  · simp only [Act.put, List.setIfInBounds_toArray, List.set_cons_zero, List.set_cons_succ, i64_w, i32_w]
    rfl
  refine take_ (i := 18) (N := some 47) (v := ?_) (a' := ?_) #[true, true, true, true, true, true, true, true, true, true, true, true, true, true, true, true, true, true, true, false, true, false, false, false, false, false, false, false, false] rfl rfl (by kernel_rfl) (fun _ _ _ h => h) (Or.inl ⟨by rfl, ?_⟩) hHeld ?_ ?_
  rotate_left
  · rintro w' ⟨s0, s1, s2, s3, s4⟩
    go_simp
    with_reducible rfl
  rotate_left
  · simp only [Act.put, List.setIfInBounds_toArray, List.set_cons_zero, List.set_cons_succ, i64_w, i32_w]
    rfl
  refine pure_ (i := 19) (N := some 48) (v := ?_) (a' := ?_) #[true, true, true, true, true, true, true, true, true, true, true, true, true, true, true, true, true, true, true, true, true, false, false, false, false, false, false, false, false] rfl rfl (by kernel_rfl) (fun _ _ _ h => h) (Or.inl ⟨by rfl, ?_⟩) ?_ ?_
  rotate_left
  · intro w'
    go_simp
    with_reducible rfl
  rotate_left
  · simp only [Act.put, List.setIfInBounds_toArray, List.set_cons_zero, List.set_cons_succ, i64_w, i32_w]
    rfl
  refine take_ (i := 21) (N := some 50) (v := ?_) (a' := ?_) #[true, true, true, true, true, true, true, true, true, true, true, true, true, true, true, true, true, true, true, true, true, true, false, false, false, false, false, false, false] rfl rfl (by kernel_rfl) (fun _ _ _ h => h) (Or.inl ⟨by rfl, ?_⟩) hHeld ?_ ?_
  rotate_left
  · rintro w' ⟨s0, s1, s2, s3, s4⟩
    go_simp
    with_reducible rfl
  rotate_left
  · simp only [Act.put, List.setIfInBounds_toArray, List.set_cons_zero, List.set_cons_succ, i64_w, i32_w]
    rfl
  refine one_ (i := 22) (N := some 51) #[true, true, true, true, true, true, true, true, true, true, true, true, true, true, true, true, true, true, true, true, true, true, true, false, false, false, false, false, false] rfl rfl (by kernel_rfl) (by decide) (fun K hK => ?_)
  refine goes_ Tryd.func12 (by kernel_rfl) rfl #[.slice A3 b.length c3] (by rfl) rfl rfl (by simp only [List.map_toArray, List.map_cons, List.map_nil]; rfl) ?_
  with_reducible refine (drumlineref1_Copy.calls A3 c3 b b _ HC0.out HCL.out (copy_ok HBL.out)).mono ?_
  rintro e w3 ⟨v3, rfl, ho3, hb3⟩
  obtain ⟨A4, c4, rfl⟩ := Kd.R_slice ho3
  have HB3 := Aside0.mk (HB0.out.trans (hb3.mono (Nat.le_of_lt (blk_lt HX0.out))))
  have HX3 := Aside0.mk ((hb3.block xb (blk_lt HX0.out)).trans HX0.out)
  have HG3 := Aside0.mk ((hb3.block g (blk_lt HG0.out)).trans HG0.out)
  have HR3 := Aside0.mk (Kd.R_below HR0.out hb3)
  clear ho3 hb3
  refine ⟨_, rfl, ?_⟩
  refine hK.out _ _ ⟨((blk_cell HG3.out 7).trans rfl), ((blk_cell HX3.out 0).trans rfl), ((blk_cell HX3.out 2).trans rfl), ((blk_cell HG3.out 3).trans rfl), ((blk_cell HX3.out 3).trans rfl)⟩ (fun hHeld => ?_)
  clear hK K
  refine norm_ (a' := ?_) ?_ ?_
  rotate_left
  · show Act.put _ (some 51) _ = _
    simp only [Act.put, List.setIfInBounds_toArray, List.set_cons_zero, List.set_cons_succ, i64_w, i32_w]
    rfl
  refine pure_ (i := 23) (N := some 52) (v := ?_) (a' := ?_) #[true, true, true, true, true, true, true, true, true, true, true, true, true, true, true, true, true, true, true, true, true, true, true, true, false, false, false, false, false] rfl rfl (by kernel_rfl) (fun _ _ _ h => h) (Or.inl ⟨by rfl, ?_⟩) ?_ ?_
  rotate_left
  · intro w'
    go_simp
    with_reducible rfl
  rotate_left
  · simp only [Act.put, List.setIfInBounds_toArray, List.set_cons_zero, List.set_cons_succ, i64_w, i32_w]
    rfl
  refine one_ (i := 24) (N := some 53) #[true, true, true, true, true, true, true, true, true, true, true, true, true, true, true, true, true, true, true, true, true, true, true, true, true, false, false, false, false] rfl rfl (by kernel_rfl) (by decide) (fun K hK => ?_)
  refine value_ (w1 := ?_) (v := ?_) (by rfl) rfl ?_ ?_
  rotate_left 2
  · go_simp
    constructor
    · rfl
    · rfl
  have kb4 := below_alloc (Below.refl w3.heap.size w3) (.cells #[.int .i64 2, .int .i64 sq, .bool (wrap64 (sq - 1) != f 2), .slice A4 b.length c4] 52)
  have HX4 := Aside0.mk ((kb4.block xb (blk_lt HX3.out)).trans HX3.out)
  have HG4 := Aside0.mk ((kb4.block g (blk_lt HG3.out)).trans HG3.out)
  clear kb4
  refine hK.out _ _ ⟨((blk_cell HG4.out 7).trans rfl), ((blk_cell HX4.out 0).trans rfl), ((blk_cell HX4.out 2).trans rfl), ((blk_cell HG4.out 3).trans rfl), ((blk_cell HX4.out 3).trans rfl)⟩ (fun hHeld => ?_)
  clear hK K
  refine norm_ (a' := ?_) ?_ ?_
  rotate_left
  · show Act.put _ (some 53) _ = _
    simp only [Act.put, List.setIfInBounds_toArray, List.set_cons_zero, List.set_cons_succ, i64_w, i32_w]
    rfl
  refine one_ (i := 25) (N := some 54) #[true, true, true, true, true, true, true, true, true, true, true, true, true, true, true, true, true, true, true, true, true, true, true, true, true, true, false, false, false] rfl rfl (by kernel_rfl) (by decide) (fun K hK => ?_)
  refine Kd.R_append_step lgk (w0 := w3) base (by rfl) (.tmp 33) (.tmp 53) 22 52 (.agg #[.int .i64 0, .int .i64 0, .bool false, .slice none 0 0]) 48 rfl Tryd.underlying22 hinfoG rfl (by decide) (by omega) (.slice A L.length c) L (⟨2, sq, (wrap64 (sq - 1) != f 2), b⟩ : S52) [.int .i64 2, .int .i64 sq, .bool (wrap64 (sq - 1) != f 2), .slice A4 b.length c4] (fun k => k ≠ g ∧ k ≠ xb) (fun _ => False) rfl rfl ⟨A4, _, c4, rfl⟩ (fun _ hk => hk.elim) (fun k hk => ⟨(by have := blk_lt HG3.out; omega), (by have := blk_lt HX3.out; omega)⟩) HR3.out (Below.refl _ _) (by have := blk_lt HG3.out; omega) (by have := HLL.out; omega) ?_
  intro v5 w5 ho5 hb5 hg5 hat5
  obtain ⟨A5, c5, rfl⟩ := Kd.R_slice ho5
  have HB5 := Aside0.mk hb5
  have HX5 := Aside0.mk ((hg5.block xb (blk_lt HX3.out) (fun e => (HR3.out.1 xb e.symm).2 rfl)).trans HX3.out)
  have HG5 := Aside0.mk ((hg5.block g (blk_lt HG3.out) (fun e => (HR3.out.1 g e.symm).1 rfl)).trans HG3.out)
  have HR5 := Aside0.mk ho5
  have f7 := blk_frozen HG5.out 7
  clear ho5 hb5 hg5 hat5
  refine hK.out _ _ ⟨((blk_cell HG5.out 7).trans rfl), ((blk_cell HX5.out 0).trans rfl), ((blk_cell HX5.out 2).trans rfl), ((blk_cell HG5.out 3).trans rfl), ((blk_cell HX5.out 3).trans rfl)⟩ (fun hHeld => ?_)
  clear hK K
  refine norm_ (a' := ?_) ?_ ?_
  rotate_left
  · show Act.put _ (some 54) _ = _
    simp only [Act.put, List.setIfInBounds_toArray, List.set_cons_zero, List.set_cons_succ, i64_w, i32_w]
    rfl
  refine pure_ (i := 26) (N := some 55) (v := ?_) (a' := ?_) #[true, true, true, true, true, true, true, true, true, true, true, true, true, true, true, true, true, true, true, true, true, true, true, true, true, true, true, false, false] rfl rfl (by kernel_rfl) (fun _ _ _ h => h) (Or.inl ⟨by rfl, ?_⟩) ?_ ?_
  rotate_left
  · intro w'
    go_simp
    with_reducible rfl
  rotate_left
  · simp only [Act.put, List.setIfInBounds_toArray, List.set_cons_zero, List.set_cons_succ, i64_w, i32_w]
    rfl
  refine pure_ (i := 27) (N := some 56) (v := ?_) (a' := ?_) #[true, true, true, true, true, true, true, true, true, true, true, true, true, true, true, true, true, true, true, true, true, true, true, true, true, true, true, true, false] rfl rfl (by kernel_rfl) (fun _ _ _ h => h) (Or.inl ⟨by rfl, ?_⟩) ?_ ?_
  rotate_left
  · intro w'
    go_simp
    with_reducible rfl
  rotate_left
  · simp only [Act.put, List.setIfInBounds_toArray, List.set_cons_zero, List.set_cons_succ, i64_w, i32_w]
    rfl
  refine last_ (i := 28) (N := none) #[true, true, true, true, true, true, true, true, true, true, true, true, true, true, true, true, true, true, true, true, true, true, true, true, true, true, true, true, true] rfl rfl (by kernel_rfl) (by decide) (fun K hK => ?_)
  refine skip_ (w1 := ?_) (by rfl) rfl ?_ ?_
  rotate_left
  · go_simp
    rfl
  refine hK.out _ _ ?_
  clear hK K
  refine done_ (by kernel_rfl) ?_
  have hlen : (L ++ [(⟨2, sq, (wrap64 (sq - 1) != f 2), b⟩ : S52)]).length = L.length + 1 := by simp
  have HG6 := Aside0.mk (blk_set HG5.out 7 (.slice A5 (L.length + 1) c5))
  have HX6 := Aside0.mk (blk_far (p := ⟨g, 7, none⟩) HX5.out (show xb ≠ g by have := HLT.out; omega) (.slice A5 (L.length + 1) c5))
  have HR6 := Aside0.mk (Kd.R_far (p := ⟨g, 7, none⟩) HR5.out (fun k hk => hk.1) (.slice A5 (L.length + 1) c5))
  have HB6 : Aside0 (Below base w (w5.setCell ⟨g, 7, none⟩ (.slice A5 (L.length + 1) c5))) := ⟨((HB3.out.mono (Nat.le_trans lo (Nat.le_of_lt HLT.out))).trans HB5.out).setCell lo _⟩
  have HLEN := Aside0.mk hlen
  clear hlen f7
  generalize w5.setCell ⟨g, 7, none⟩ (.slice A5 (L.length + 1) c5) = w6 at *
  have x0 : w6.cell? ⟨xb, 0, none⟩ = some (.int .i64 2) := (blk_cell HX6.out 0).trans rfl
  have x2 : w6.cell? ⟨xb, 2, none⟩ = some (.int .i64 sq) := (blk_cell HX6.out 2).trans rfl
  have c1 : w6.cell? ⟨g, 3, none⟩ = some (.int .i64 (f 2)) := (blk_cell HG6.out 3).trans rfl
  have z1 := blk_frozen HG6.out 3
  go_wp2
  go_region
  all_goals go_wp2
  all_goals
    go_ret
    refine ⟨rfl, ⟨⟨A5, c5, ?_, ?_⟩, lo⟩, (below_drew HB6.out).setCell lo _⟩
    · have : (w6.setCell ⟨g, 3, none⟩ (.int .i64 sq)).drew.heap[g]? = _ := blk_set (w := w6) HG6.out 3 (.int .i64 sq)
      rw [HLEN.out]
      simpa using this
    · exact Kd.R_mono (Kd.R_far (p := ⟨g, 3, none⟩) (Kd.R_drew HR6.out) (fun k hk => hk.1) _) (fun k hk => hk.1)
set_option maxHeartbeats 8000000 in
theorem hand_yes3 (tt sq : Int) (A3 : Option Addr) (c3 : Nat) (b : List Int) (w : World) (H : Lg w base g f L) (hC : Kd.C (Kd.int .u8) w A3 b.length b) (hcl : b.length ≤ c3) (hbl : b.length < 140737488355328) (hL : L.length ≤ 1000) (h : f 3 < sq) :
    Calls Tryd.prog 6 #[.pointer (some ⟨g, 0, none⟩), .agg #[.int .i64 3, .int .i64 tt, .int .i64 sq, .slice A3 b.length c3]] w fun e w' => e = .returned (.bool true) ∧ Lg w' base g (fun i => if i = 3 then sq else f i) (L ++ [(⟨3, sq, (wrap64 (sq - 1) != f 3), b⟩ : S52)]) ∧ Below base w w' := by
  have HC := Aside0.mk hC
  have HCL := Aside0.mk hcl
  have HBL := Aside0.mk hbl
  have HLL := Aside0.mk hL
  clear hC hcl hbl hL
  have d1 : decide (sq ≤ f 3) = false := decide_eq_false (by omega)
  obtain ⟨⟨A, c, hb, hr⟩, lo⟩ := H
  have HH := Aside0.mk (Lg.mk (f := f) (L := L) ⟨A, c, hb, hr⟩ lo)
  have HG := Aside0.mk hb
  have HLT := Aside0.mk (blk_lt hb)
  have HRW : Aside0 (Kd.R lgk 52 w base (fun k => k ≠ g ∧ k ≠ w.heap.size) (.slice A L.length c) L) := ⟨Kd.R_mono (Kd.R_bound hr) (fun k hk => ⟨hk.1, Nat.ne_of_lt hk.2.2.1⟩)⟩
  clear hr hb
  go_enter Tryd.func6, Tryd.ntmps6
  go_wp2
  have kb := below_alloc (Below.refl w.heap.size w) (.cells #[.int .i64 3, .int .i64 tt, .int .i64 sq, .slice A3 b.length c3] 30)
  have HX := Aside0.mk (heap_alloc_new w (.cells #[.int .i64 3, .int .i64 tt, .int .i64 sq, .slice A3 b.length c3] 30))
  have H1 := Aside0.mk (HH.out.more kb)
  have HG1 := Aside0.mk ((kb.block g (blk_lt HG.out)).trans HG.out)
  have HB := Aside0.mk kb
  have HRW_ := Aside0.mk (Kd.R_below HRW.out kb)
  have HRW := HRW_
  have HC1 := Aside0.mk (Kd.C_below HC.out kb)
  clear HRW_ kb
  generalize w.alloc (.cells #[.int .i64 3, .int .i64 tt, .int .i64 sq, .slice A3 b.length c3] 30) = w1 at *
  generalize w.heap.size = xb at *
  have x0 : w1.cell? ⟨xb, 0, none⟩ = some (.int .i64 3) := (blk_cell HX.out 0).trans rfl
  have x2 : w1.cell? ⟨xb, 2, none⟩ = some (.int .i64 sq) := (blk_cell HX.out 2).trans rfl
  have c0 : w1.cell? ⟨g, 0, none⟩ = some (.int .i64 6) := (blk_cell HG1.out 0).trans rfl
  have c1 : w1.cell? ⟨g, 4, none⟩ = some (.int .i64 (f 3)) := (blk_cell HG1.out 4).trans rfl
  go_quiet (fail)
  go_wp2
  have HB0 : Aside0 (Below xb w (w1.drewN nq).drew) := ⟨pw_below_drewN HB.out (nq + 1)⟩
  have HX0 : Aside0 ((w1.drewN nq).drew.heap[xb]? = _) := ⟨HX.out⟩
  have HG0 : Aside0 ((w1.drewN nq).drew.heap[g]? = _) := ⟨HG1.out⟩
  have HC0 : Aside0 (Kd.C (Kd.int .u8) (w1.drewN nq).drew A3 b.length b) := Aside0.mk (Kd.C_below HC1.out (pw_below_drewN (Below.refl w1.heap.size w1) (nq + 1)))
  have HR0 : Aside0 (Kd.R lgk 52 (w1.drewN nq).drew base (fun k => k ≠ g ∧ k ≠ xb) (.slice A L.length c) L) := Aside0.mk (Kd.R_below (Kd.R_drewN HRW.out nq) (pw_below_drewN (Below.refl _ _) 1))
  refine start_ (n := 29) (S := fun w' => w'.cell? ⟨g, 7, none⟩ = some (.slice A L.length c) ∧ w'.cell? ⟨xb, 0, none⟩ = some (.int .i64 3) ∧ w'.cell? ⟨xb, 2, none⟩ = some (.int .i64 sq) ∧ w'.cell? ⟨g, 4, none⟩ = some (.int .i64 (f 3)) ∧ w'.cell? ⟨xb, 3, none⟩ = some (.slice A3 b.length c3)) (ds := [28]) #[false, false, false, false, false, false, false, false, false, false, false, false, false, false, false, false, false, false, false, false, false, false, false, false, false, false, false, false, false] (by kernel_rfl) rfl rfl ⟨((blk_cell HG0.out 7).trans rfl), ((blk_cell HX0.out 0).trans rfl), ((blk_cell HX0.out 2).trans rfl), ((blk_cell HG0.out 4).trans rfl), ((blk_cell HX0.out 3).trans rfl)⟩ (fun hHeld => ?_)
  generalize (w1.drewN nq).drew = wd at HB0 HX0 HG0 HR0 HC0 hHeld ⊢
  refine pure_ (i := 0) (N := some 29) (v := ?_) (a' := ?_) #[true, false, false, false, false, false, false, false, false, false, false, false, false, false, false, false, false, false, false, false, false, false, false, false, false, false, false, false, false] rfl rfl (by kernel_rfl) (fun _ _ _ h => h) (Or.inl ⟨by rfl, ?_⟩) ?_ ?_
  rotate_left
  · intro w'
    go_simp
    with_reducible rfl
  rotate_left
  · simp only [Act.put, List.setIfInBounds_toArray, List.set_cons_zero, List.set_cons_succ, i64_w, i32_w]
    rfl
  refine pure_ (i := 1) (N := some 30) (v := ?_) (a' := ?_) #[true, true, false, false, false, false, false, false, false, false, false, false, false, false, false, false, false, false, false, false, false, false, false, false, false, false, false, false, false] rfl rfl (by kernel_rfl) (fun _ _ _ h => h) (Or.inl ⟨by rfl, ?_⟩) ?_ ?_
  rotate_left
  · intro w'
    go_simp
    with_reducible rfl
  rotate_left
  · simp only [Act.put, List.setIfInBounds_toArray, List.set_cons_zero, List.set_cons_succ, i64_w, i32_w]
    rfl
  refine pure_ (i := 2) (N := some 31) (v := ?_) (a' := ?_) #[true, true, true, false, false, false, false, false, false, false, false, false, false, false, false, false, false, false, false, false, false, false, false, false, false, false, false, false, false] rfl rfl (by kernel_rfl) (fun _ _ _ h => h) (Or.inl ⟨by rfl, ?_⟩) ?_ ?_
  rotate_left
  · intro w'
    go_simp
    with_reducible rfl
  rotate_left
  · simp only [Act.put, List.setIfInBounds_toArray, List.set_cons_zero, List.set_cons_succ, i64_w, i32_w]
    rfl
  refine pure_ (i := 3) (N := some 32) (v := ?_) (a' := ?_) #[true, true, true, true, false, false, false, false, false, false, false, false, false, false, false, false, false, false, false, false, false, false, false, false, false, false, false, false, false] rfl rfl (by kernel_rfl) (fun _ _ _ h => h) (Or.inl ⟨by rfl, ?_⟩) ?_ ?_
  rotate_left
  · intro w'
    go_simp
    with_reducible rfl
  rotate_left
  · simp only [Act.put, List.setIfInBounds_toArray, List.set_cons_zero, List.set_cons_succ, i64_w, i32_w]
    rfl
  refine pure_ (i := 5) (N := some 34) (v := ?_) (a' := ?_) #[true, true, true, true, false, true, false, false, false, false, false, false, false, false, false, false, false, false, false, false, false, false, false, false, false, false, false, false, false] rfl rfl (by kernel_rfl) (fun _ _ _ h => h) (Or.inl ⟨by rfl, ?_⟩) ?_ ?_
  rotate_left
  · intro w'
    go_simp
    with_reducible rfl
  rotate_left
  · simp only [Act.put, List.setIfInBounds_toArray, List.set_cons_zero, List.set_cons_succ, i64_w, i32_w]
    rfl
  refine pure_ (i := 7) (N := some 36) (v := ?_) (a' := ?_) #[true, true, true, true, false, true, false, true, false, false, false, false, false, false, false, false, false, false, false, false, false, false, false, false, false, false, false, false, false] rfl rfl (by kernel_rfl) (fun _ _ _ h => h) (Or.inl ⟨by rfl, ?_⟩) ?_ ?_
  rotate_left
  · intro w'
    go_simp
    with_reducible rfl
  rotate_left
  · simp only [Act.put, List.setIfInBounds_toArray, List.set_cons_zero, List.set_cons_succ, i64_w, i32_w]
    rfl
  refine pure_ (i := 9) (N := some 38) (v := ?_) (a' := ?_) #[true, true, true, true, false, true, false, true, false, true, false, false, false, false, false, false, false, false, false, false, false, false, false, false, false, false, false, false, false] rfl rfl (by kernel_rfl) (fun _ _ _ h => h) (Or.inl ⟨by rfl, ?_⟩) ?_ ?_
  rotate_left
  · intro w'
    go_simp
    with_reducible rfl
  rotate_left
  · simp only [Act.put, List.setIfInBounds_toArray, List.set_cons_zero, List.set_cons_succ, i64_w, i32_w]
    rfl
  refine pure_ (i := 12) (N := some 41) (v := ?_) (a' := ?_) #[true, true, true, true, false, true, false, true, false, true, false, false, true, false, false, false, false, false, false, false, false, false, false, false, false, false, false, false, false] rfl rfl (by kernel_rfl) (fun _ _ _ h => h) (Or.inl ⟨by rfl, ?_⟩) ?_ ?_
  rotate_left
  · intro w'
    go_simp
    with_reducible rfl
  rotate_left
  · simp only [Act.put, List.setIfInBounds_toArray, List.set_cons_zero, List.set_cons_succ, i64_w, i32_w]
    rfl
  refine pure_ (i := 13) (N := some 42) (v := ?_) (a' := ?_) #[true, true, true, true, false, true, false, true, false, true, false, false, true, true, false, false, false, false, false, false, false, false, false, false, false, false, false, false, false] rfl rfl (by kernel_rfl) (fun _ _ _ h => h) (Or.inl ⟨by rfl, ?_⟩) ?_ ?_
  rotate_left
  · intro w'
    go_simp
    with_reducible rfl
  rotate_left
  · simp only [Act.put, List.setIfInBounds_toArray, List.set_cons_zero, List.set_cons_succ, i64_w, i32_w]
    rfl
  refine pure_ (i := 15) (N := some 44) (v := ?_) (a' := ?_) #[true, true, true, true, false, true, false, true, false, true, false, false, true, true, false, true, false, false, false, false, false, false, false, false, false, false, false, false, false] rfl rfl (by kernel_rfl) (fun _ _ _ h => h) (Or.inl ⟨by rfl, ?_⟩) ?_ ?_
  rotate_left
  · intro w'
    go_simp
    with_reducible rfl
  rotate_left
  · simp only [Act.put, List.setIfInBounds_toArray, List.set_cons_zero, List.set_cons_succ, i64_w, i32_w]
    rfl
  refine pure_ (i := 16) (N := some 45) (v := ?_) (a' := ?_) #[true, true, true, true, false, true, false, true, false, true, false, false, true, true, false, true, true, false, false, false, false, false, false, false, false, false, false, false, false] rfl rfl (by kernel_rfl) (fun _ _ _ h => h) (Or.inl ⟨by rfl, ?_⟩) ?_ ?_
  rotate_left
  · intro w'
    go_simp
    with_reducible rfl
  rotate_left
  · simp only [Act.put, List.setIfInBounds_toArray, List.set_cons_zero, List.set_cons_succ, i64_w, i32_w]
    rfl
  refine pure_ (i := 20) (N := some 49) (v := ?_) (a' := ?_) #[true, true, true, true, false, true, false, true, false, true, false, false, true, true, false, true, true, false, false, false, true, false, false, false, false, false, false, false, false] rfl rfl (by kernel_rfl) (fun _ _ _ h => h) (Or.inl ⟨by rfl, ?_⟩) ?_ ?_
  rotate_left
  · intro w'
    go_simp
    with_reducible rfl
  rotate_left
  · simp only [Act.put, List.setIfInBounds_toArray, List.set_cons_zero, List.set_cons_succ, i64_w, i32_w]
    rfl
  refine take_ (i := 4) (N := some 33) (v := ?_) (a' := ?_) #[true, true, true, true, true, true, false, true, false, true, false, false, true, true, false, true, true, false, false, false, true, false, false, false, false, false, false, false, false] rfl rfl (by kernel_rfl) (fun _ _ _ h => h) (Or.inl ⟨by rfl, ?_⟩) hHeld ?_ ?_
  rotate_left
  · rintro w' ⟨s0, s1, s2, s3, s4⟩
    go_simp
    with_reducible rfl
  rotate_left
  · simp only [Act.put, List.setIfInBounds_toArray, List.set_cons_zero, List.set_cons_succ, i64_w, i32_w]
    rfl
  refine take_ (i := 6) (N := some 35) (v := ?_) (a' := ?_) #[true, true, true, true, true, true, true, true, false, true, false, false, true, true, false, true, true, false, false, false, true, false, false, false, false, false, false, false, false] rfl rfl (by kernel_rfl) (fun _ _ _ h => h) (Or.inl ⟨by rfl, ?_⟩) hHeld ?_ ?_
  rotate_left
  · rintro w' ⟨s0, s1, s2, s3, s4⟩
    go_simp
    with_reducible rfl
  rotate_left
  · simp only [Act.put, List.setIfInBounds_toArray, List.set_cons_zero, List.set_cons_succ, i64_w, i32_w]
    rfl
  refine take_ (i := 8) (N := some 37) (v := ?_) (a' := ?_) #[true, true, true, true, true, true, true, true, true, true, false, false, true, true, false, true, true, false, false, false, true, false, false, false, false, false, false, false, false] rfl rfl (by kernel_rfl) (fun _ _ _ h => h) (Or.inl ⟨by rfl, ?_⟩) hHeld ?_ ?_
  rotate_left
  · rintro w' ⟨s0, s1, s2, s3, s4⟩
    go_simp
    with_reducible rfl
  rotate_left
  · simp only [Act.put, List.setIfInBounds_toArray, List.set_cons_zero, List.set_cons_succ, i64_w, i32_w]
    rfl
  refine take_ (i := 10) (N := some 39) (v := ?_) (a' := ?_) #[true, true, true, true, true, true, true, true, true, true, true, false, true, true, false, true, true, false, false, false, true, false, false, false, false, false, false, false, false] rfl rfl (by kernel_rfl) (fun _ _ _ h => h) (Or.inl ⟨by rfl, ?_⟩) hHeld ?_ ?_
  rotate_left
  · rintro w' ⟨s0, s1, s2, s3, s4⟩
    go_simp
    with_reducible rfl
  rotate_left
  · simp only [Act.put, List.setIfInBounds_toArray, List.set_cons_zero, List.set_cons_succ, i64_w, i32_w]
    rfl
  refine pure_ (i := 11) (N := some 40) (v := ?_) (a' := ?_) #[true, true, true, true, true, true, true, true, true, true, true, true, true, true, false, true, true, false, false, false, true, false, false, false, false, false, false, false, false] rfl rfl (by kernel_rfl) (fun _ _ _ h => h) (Or.inl ⟨by rfl, ?_⟩) ?_ ?_
  rotate_left
  · intro w'
    go_simp
    with_reducible rfl
  rotate_left
  · simp only [Act.put, List.setIfInBounds_toArray, List.set_cons_zero, List.set_cons_succ, i64_w, i32_w]
    rfl
  refine take_ (i := 14) (N := some 43) (v := ?_) (a' := ?_) #[true, true, true, true, true, true, true, true, true, true, true, true, true, true, true, true, true, false, false, false, true, false, false, false, false, false, false, false, false] rfl rfl (by kernel_rfl) (fun _ _ _ h => h) (Or.inl ⟨by rfl, ?_⟩) hHeld ?_ ?_
  rotate_left
  · rintro w' ⟨s0, s1, s2, s3, s4⟩
    go_simp
    with_reducible rfl
  rotate_left
  · simp only [Act.put, List.setIfInBounds_toArray, List.set_cons_zero, List.set_cons_succ, i64_w, i32_w]
    rfl
  refine pure_ (i := 17) (N := some 46) (v := ?_) (a' := ?_) #[true, true, true, true, true, true, true, true, true, true, true, true, true, true, true, true, true, true, false, false, true, false, false, false, false, false, false, false, false] rfl rfl (by kernel_rfl) (fun _ _ _ h => h) (Or.inl ⟨by rfl, ?_⟩) ?_ ?_
  rotate_left
  · intro w'
    go_simp
    with_reducible rfl
  rotate_left
  · simp only [Act.put, List.setIfInBounds_toArray, List.set_cons_zero, List.set_cons_succ, i64_w, i32_w]
    rfl
  refine take_ (i := 18) (N := some 47) (v := ?_) (a' := ?_) #[true, true, true, true, true, true, true, true, true, true, true, true, true, true, true, true, true, true, true, false, true, false, false, false, false, false, false, false, false] rfl rfl (by kernel_rfl) (fun _ _ _ h => h) (Or.inl ⟨by rfl, ?_⟩) hHeld ?_ ?_
  rotate_left
  · rintro w' ⟨s0, s1, s2, s3, s4⟩
    go_simp
    with_reducible rfl
  rotate_left
  · simp only [Act.put, List.setIfInBounds_toArray, List.set_cons_zero, List.set_cons_succ, i64_w, i32_w]
    rfl
  refine pure_ (i := 19) (N := some 48) (v := ?_) (a' := ?_) #[true, true, true, true, true, true, true, true, true, true, true, true, true, true, true, true, true, true, true, true, true, false, false, false, false, false, false, false, false] rfl rfl (by kernel_rfl) (fun _ _ _ h => h) (Or.inl ⟨by rfl, ?_⟩) ?_ ?_
  rotate_left
  · intro w'
    go_simp
    with_reducible rfl
  rotate_left
  · simp only [Act.put, List.setIfInBounds_toArray, List.set_cons_zero, List.set_cons_succ, i64_w, i32_w]
    rfl
  refine take_ (i := 21) (N := some 50) (v := ?_) (a' := ?_) #[true, true, true, true, true, true, true, true, true, true, true, true, true, true, true, true, true, true, true, true, true, true, false, false, false, false, false, false, false] rfl rfl (by kernel_rfl) (fun _ _ _ h => h) (Or.inl ⟨by rfl, ?_⟩) hHeld ?_ ?_
  rotate_left
  · rintro w' ⟨s0, s1, s2, s3, s4⟩
    go_simp
    with_reducible rfl
  rotate_left
  · simp only [Act.put, List.setIfInBounds_toArray, List.set_cons_zero, List.set_cons_succ, i64_w, i32_w]
    rfl
  refine one_ (i := 22) (N := some 51) #[true, true, true, true, true, true, true, true, true, true, true, true, true, true, true, true, true, true, true, true, true, true, true, false, false, false, false, false, false] rfl rfl (by kernel_rfl) (by decide) (fun K hK => ?_)
  refine goes_ Tryd.func12 (by kernel_rfl) rfl #[.slice A3 b.length c3] (by rfl) rfl rfl (by simp only [List.map_toArray, List.map_cons, List.map_nil]; rfl) ?_
  with_reducible refine (drumlineref1_Copy.calls A3 c3 b b _ HC0.out HCL.out (copy_ok HBL.out)).mono ?_
  rintro e w3 ⟨v3, rfl, ho3, hb3⟩
  obtain ⟨A4, c4, rfl⟩ := Kd.R_slice ho3
  have HB3 := Aside0.mk (HB0.out.trans (hb3.mono (Nat.le_of_lt (blk_lt HX0.out))))
  have HX3 := Aside0.mk ((hb3.block xb (blk_lt HX0.out)).trans HX0.out)
  have HG3 := Aside0.mk ((hb3.block g (blk_lt HG0.out)).trans HG0.out)
  have HR3 := Aside0.mk (Kd.R_below HR0.out hb3)
  clear ho3 hb3
  refine ⟨_, rfl, ?_⟩
  refine hK.out _ _ ⟨((blk_cell HG3.out 7).trans rfl), ((blk_cell HX3.out 0).trans rfl), ((blk_cell HX3.out 2).trans rfl), ((blk_cell HG3.out 4).trans rfl), ((blk_cell HX3.out 3).trans rfl)⟩ (fun hHeld => ?_)
  clear hK K
  refine norm_ (a' := ?_) ?_ ?_
  rotate_left
  · show Act.put _ (some 51) _ = _
    simp only [Act.put, List.setIfInBounds_toArray, List.set_cons_zero, List.set_cons_succ, i64_w, i32_w]
    rfl
  refine pure_ (i := 23) (N := some 52) (v := ?_) (a' := ?_) #[true, true, true, true, true, true, true, true, true, true, true, true, true, true, true, true, true, true, true, true, true, true, true, true, false, false, false, false, false] rfl rfl (by kernel_rfl) (fun _ _ _ h => h) (Or.inl ⟨by rfl, ?_⟩) ?_ ?_
  rotate_left
  · intro w'
    go_simp
    with_reducible rfl
  rotate_left
  · simp only [Act.put, List.setIfInBounds_toArray, List.set_cons_zero, List.set_cons_succ, i64_w, i32_w]
    rfl
  refine one_ (i := 24) (N := some 53) #[true, true, true, true, true, true, true, true, true, true, true, true, true, true, true, true, true, true, true, true, true, true, true, true, true, false, false, false, false] rfl rfl (by kernel_rfl) (by decide) (fun K hK => ?_)
  refine value_ (w1 := ?_) (v := ?_) (by rfl) rfl ?_ ?_
  rotate_left 2
  · go_simp
    constructor
    · rfl
    · rfl
  have kb4 := below_alloc (Below.refl w3.heap.size w3) (.cells #[.int .i64 3, .int .i64 sq, .bool (wrap64 (sq - 1) != f 3), .slice A4 b.length c4] 52)
  have HX4 := Aside0.mk ((kb4.block xb (blk_lt HX3.out)).trans HX3.out)
  have HG4 := Aside0.mk ((kb4.block g (blk_lt HG3.out)).trans HG3.out)
  clear kb4
  refine hK.out _ _ ⟨((blk_cell HG4.out 7).trans rfl), ((blk_cell HX4.out 0).trans rfl), ((blk_cell HX4.out 2).trans rfl), ((blk_cell HG4.out 4).trans rfl), ((blk_cell HX4.out 3).trans rfl)⟩ (fun hHeld => ?_)
  clear hK K
  refine norm_ (a' := ?_) ?_ ?_
  rotate_left
  · show Act.put _ (some 53) _ = _
    simp only [Act.put, List.setIfInBounds_toArray, List.set_cons_zero, List.set_cons_succ, i64_w, i32_w]
    rfl
  refine one_ (i := 25) (N := some 54) #[true, true, true, true, true, true, true, true, true, true, true, true, true, true, true, true, true, true, true, true, true, true, true, true, true, true, false, false, false] rfl rfl (by kernel_rfl) (by decide) (fun K hK => ?_)
  refine Kd.R_append_step lgk (w0 := w3) base (by rfl) (.tmp 33) (.tmp 53) 22 52 (.agg #[.int .i64 0, .int .i64 0, .bool false, .slice none 0 0]) 48 rfl Tryd.underlying22 hinfoG rfl (by decide) (by omega) (.slice A L.length c) L (⟨3, sq, (wrap64 (sq - 1) != f 3), b⟩ : S52) [.int .i64 3, .int .i64 sq, .bool (wrap64 (sq - 1) != f 3), .slice A4 b.length c4] (fun k => k ≠ g ∧ k ≠ xb) (fun _ => False) rfl rfl ⟨A4, _, c4, rfl⟩ (fun _ hk => hk.elim) (fun k hk => ⟨(by have := blk_lt HG3.out; omega), (by have := blk_lt HX3.out; omega)⟩) HR3.out (Below.refl _ _) (by have := blk_lt HG3.out; omega) (by have := HLL.out; omega) ?_
  intro v5 w5 ho5 hb5 hg5 hat5
  obtain ⟨A5, c5, rfl⟩ := Kd.R_slice ho5
  have HB5 := Aside0.mk hb5
  have HX5 := Aside0.mk ((hg5.block xb (blk_lt HX3.out) (fun e => (HR3.out.1 xb e.symm).2 rfl)).trans HX3.out)
  have HG5 := Aside0.mk ((hg5.block g (blk_lt HG3.out) (fun e => (HR3.out.1 g e.symm).1 rfl)).trans HG3.out)
  have HR5 := Aside0.mk ho5
  have f7 := blk_frozen HG5.out 7
  clear ho5 hb5 hg5 hat5
  refine hK.out _ _ ⟨((blk_cell HG5.out 7).trans rfl), ((blk_cell HX5.out 0).trans rfl), ((blk_cell HX5.out 2).trans rfl), ((blk_cell HG5.out 4).trans rfl), ((blk_cell HX5.out 3).trans rfl)⟩ (fun hHeld => ?_)
  clear hK K
  refine norm_ (a' := ?_) ?_ ?_
  rotate_left
  · show Act.put _ (some 54) _ = _
    simp only [Act.put, List.setIfInBounds_toArray, List.set_cons_zero, List.set_cons_succ, i64_w, i32_w]
    rfl
  refine pure_ (i := 26) (N := some 55) (v := ?_) (a' := ?_) #[true, true, true, true, true, true, true, true, true, true, true, true, true, true, true, true, true, true, true, true, true, true, true, true, true, true, true, false, false] rfl rfl (by kernel_rfl) (fun _ _ _ h => h) (Or.inl ⟨by rfl, ?_⟩) ?_ ?_
  rotate_left
  · intro w'
    go_simp
    with_reducible rfl
  rotate_left
  · simp only [Act.put, List.setIfInBounds_toArray, List.set_cons_zero, List.set_cons_succ, i64_w, i32_w]
    rfl
  refine pure_ (i := 27) (N := some 56) (v := ?_) (a' := ?_) #[true, true, true, true, true, true, true, true, true, true, true, true, true, true, true, true, true, true, true, true, true, true, true, true, true, true, true, true, false] rfl rfl (by kernel_rfl) (fun _ _ _ h => h) (Or.inl ⟨by rfl, ?_⟩) ?_ ?_
  rotate_left
  · intro w'
    go_simp
    with_reducible rfl
  rotate_left
  · simp only [Act.put, List.setIfInBounds_toArray, List.set_cons_zero, List.set_cons_succ, i64_w, i32_w]
    rfl
  refine last_ (i := 28) (N := none) #[true, true, true, true, true, true, true, true, true, true, true, true, true, true, true, true, true, true, true, true, true, true, true, true, true, true, true, true, true] rfl rfl (by kernel_rfl) (by decide) (fun K hK => ?_)
  refine skip_ (w1 := ?_) (by rfl) rfl ?_ ?_
  rotate_left
  · go_simp
    rfl
  refine hK.out _ _ ?_
  clear hK K
  refine done_ (by kernel_rfl) ?_
  have hlen : (L ++ [(⟨3, sq, (wrap64 (sq - 1) != f 3), b⟩ : S52)]).length = L.length + 1 := by simp
  have HG6 := Aside0.mk (blk_set HG5.out 7 (.slice A5 (L.length + 1) c5))
  have HX6 := Aside0.mk (blk_far (p := ⟨g, 7, none⟩) HX5.out (show xb ≠ g by have := HLT.out; omega) (.slice A5 (L.length + 1) c5))
  have HR6 := Aside0.mk (Kd.R_far (p := ⟨g, 7, none⟩) HR5.out (fun k hk => hk.1) (.slice A5 (L.length + 1) c5))
  have HB6 : Aside0 (Below base w (w5.setCell ⟨g, 7, none⟩ (.slice A5 (L.length + 1) c5))) := ⟨((HB3.out.mono (Nat.le_trans lo (Nat.le_of_lt HLT.out))).trans HB5.out).setCell lo _⟩
  have HLEN := Aside0.mk hlen
  clear hlen f7
  generalize w5.setCell ⟨g, 7, none⟩ (.slice A5 (L.length + 1) c5) = w6 at *
  have x0 : w6.cell? ⟨xb, 0, none⟩ = some (.int .i64 3) := (blk_cell HX6.out 0).trans rfl
  have x2 : w6.cell? ⟨xb, 2, none⟩ = some (.int .i64 sq) := (blk_cell HX6.out 2).trans rfl
  have c1 : w6.cell? ⟨g, 4, none⟩ = some (.int .i64 (f 3)) := (blk_cell HG6.out 4).trans rfl
  have z1 := blk_frozen HG6.out 4
  go_wp2
  go_region
  all_goals go_wp2
  all_goals
    go_ret
    refine ⟨rfl, ⟨⟨A5, c5, ?_, ?_⟩, lo⟩, (below_drew HB6.out).setCell lo _⟩
    · have : (w6.setCell ⟨g, 4, none⟩ (.int .i64 sq)).drew.heap[g]? = _ := blk_set (w := w6) HG6.out 4 (.int .i64 sq)
      rw [HLEN.out]
      simpa using this
    · exact Kd.R_mono (Kd.R_far (p := ⟨g, 4, none⟩) (Kd.R_drew HR6.out) (fun k hk => hk.1) _) (fun k hk => hk.1)
set_option maxHeartbeats 8000000 in
theorem hand_yes4 (tt sq : Int) (A3 : Option Addr) (c3 : Nat) (b : List Int) (w : World) (H : Lg w base g f L) (hC : Kd.C (Kd.int .u8) w A3 b.length b) (hcl : b.length ≤ c3) (hbl : b.length < 140737488355328) (hL : L.length ≤ 1000) (h : f 4 < sq) :
    Calls Tryd.prog 6 #[.pointer (some ⟨g, 0, none⟩), .agg #[.int .i64 4, .int .i64 tt, .int .i64 sq, .slice A3 b.length c3]] w fun e w' => e = .returned (.bool true) ∧ Lg w' base g (fun i => if i = 4 then sq else f i) (L ++ [(⟨4, sq, (wrap64 (sq - 1) != f 4), b⟩ : S52)]) ∧ Below base w w' := by
  have HC := Aside0.mk hC
  have HCL := Aside0.mk hcl
  have HBL := Aside0.mk hbl
  have HLL := Aside0.mk hL
  clear hC hcl hbl hL
  have d1 : decide (sq ≤ f 4) = false := decide_eq_false (by omega)
  obtain ⟨⟨A, c, hb, hr⟩, lo⟩ := H
  have HH := Aside0.mk (Lg.mk (f := f) (L := L) ⟨A, c, hb, hr⟩ lo)
  have HG := Aside0.mk hb
  have HLT := Aside0.mk (blk_lt hb)
  have HRW : Aside0 (Kd.R lgk 52 w base (fun k => k ≠ g ∧ k ≠ w.heap.size) (.slice A L.length c) L) := ⟨Kd.R_mono (Kd.R_bound hr) (fun k hk => ⟨hk.1, Nat.ne_of_lt hk.2.2.1⟩)⟩
  clear hr hb
  go_enter Tryd.func6, Tryd.ntmps6
  go_wp2
  have kb := below_alloc (Below.refl w.heap.size w) (.cells #[.int .i64 4, .int .i64 tt, .int .i64 sq, .slice A3 b.length c3] 30)
  have HX := Aside0.mk (heap_alloc_new w (.cells #[.int .i64 4, .int .i64 tt, .int .i64 sq, .slice A3 b.length c3] 30))
  have H1 := Aside0.mk (HH.out.more kb)
  have HG1 := Aside0.mk ((kb.block g (blk_lt HG.out)).trans HG.out)
  have HB := Aside0.mk kb
  have HRW_ := Aside0.mk (Kd.R_below HRW.out kb)
  have HRW := HRW_
  have HC1 := Aside0.mk (Kd.C_below HC.out kb)
  clear HRW_ kb
  generalize w.alloc (.cells #[.int .i64 4, .int .i64 tt, .int .i64 sq, .slice A3 b.length c3] 30) = w1 at *
  generalize w.heap.size = xb at *
  have x0 : w1.cell? ⟨xb, 0, none⟩ = some (.int .i64 4) := (blk_cell HX.out 0).trans rfl
  have x2 : w1.cell? ⟨xb, 2, none⟩ = some (.int .i64 sq) := (blk_cell HX.out 2).trans rfl
  have c0 : w1.cell? ⟨g, 0, none⟩ = some (.int .i64 6) := (blk_cell HG1.out 0).trans rfl
  have c1 : w1.cell? ⟨g, 5, none⟩ = some (.int .i64 (f 4)) := (blk_cell HG1.out 5).trans rfl
  go_quiet (fail)
  go_wp2
  have HB0 : Aside0 (Below xb w (w1.drewN nq).drew) := ⟨pw_below_drewN HB.out (nq + 1)⟩
  have HX0 : Aside0 ((w1.drewN nq).drew.heap[xb]? = _) := ⟨HX.out⟩
  have HG0 : Aside0 ((w1.drewN nq).drew.heap[g]? = _) := ⟨HG1.out⟩
  have HC0 : Aside0 (Kd.C (Kd.int .u8) (w1.drewN nq).drew A3 b.length b) := Aside0.mk (Kd.C_below HC1.out (pw_below_drewN (Below.refl w1.heap.size w1) (nq + 1)))
  have HR0 : Aside0 (Kd.R lgk 52 (w1.drewN nq).drew base (fun k => k ≠ g ∧ k ≠ xb) (.slice A L.length c) L) := Aside0.mk (Kd.R_below (Kd.R_drewN HRW.out nq) (pw_below_drewN (Below.refl _ _) 1))
  refine start_ (n := 29) (S := fun w' => w'.cell? ⟨g, 7, none⟩ = some (.slice A L.length c) ∧ w'.cell? ⟨xb, 0, none⟩ = some (.int .i64 4) ∧ w'.cell? ⟨xb, 2, none⟩ = some (.int .i64 sq) ∧ w'.cell? ⟨g, 5, none⟩ = some (.int .i64 (f 4)) ∧ w'.cell? ⟨xb, 3, none⟩ = some (.slice A3 b.length c3)) (ds := [28]) #[false, false, false, false, false, false, false, false, false, false, false, false, false, false, false, false, false, false, false, false, false, false, false, false, false, false, false, false, false] (by kernel_rfl) rfl rfl ⟨((blk_cell HG0.out 7).trans rfl), ((blk_cell HX0.out 0).trans rfl), ((blk_cell HX0.out 2).trans rfl), ((blk_cell HG0.out 5).trans rfl), ((blk_cell HX0.out 3).trans rfl)⟩ (fun hHeld => ?_)
  generalize (w1.drewN nq).drew = wd at HB0 HX0 HG0 HR0 HC0 hHeld ⊢
  refine pure_ (i := 0) (N := some 29) (v := ?_) (a' := ?_) #[true, false, false, false, false, false, false, false, false, false, false, false, false, false, false, false, false, false, false, false, false, false, false, false, false, false, false, false, false] rfl rfl (by kernel_rfl) (fun _ _ _ h => h) (Or.inl ⟨by rfl, ?_⟩) ?_ ?_
  rotate_left
  · intro w'
    go_simp
    with_reducible rfl
  rotate_left
  · simp only [Act.put, List.setIfInBounds_toArray, List.set_cons_zero, List.set_cons_succ, i64_w, i32_w]
    rfl
  refine pure_ (i := 1) (N := some 30) (v := ?_) (a' := ?_) #[true, true, false, false, false, false, false, false, false, false, false, false, false, false, false, false, false, false, false, false, false, false, false, false, false, false, false, false, false] rfl rfl (by kernel_rfl) (fun _ _ _ h => h) (Or.inl ⟨by rfl, ?_⟩) ?_ ?_
  rotate_left
  · intro w'
    go_simp
    with_reducible rfl
  rotate_left
  · simp only [Act.put, List.setIfInBounds_toArray, List.set_cons_zero, List.set_cons_succ, i64_w, i32_w]
    rfl
  refine pure_ (i := 2) (N := some 31) (v := ?_) (a' := ?_) #[true, true, true, false, false, false, false, false, false, false, false, false, false, false, false, false, false, false, false, false, false, false, false, false, false, false, false, false, false] rfl rfl (by kernel_rfl) (fun _ _ _ h => h) (Or.inl ⟨by rfl, ?_⟩) ?_ ?_
  rotate_left
  · intro w'
    go_simp
    with_reducible rfl
  rotate_left
  · simp only [Act.put, List.setIfInBounds_toArray, List.set_cons_zero, List.set_cons_succ, i64_w, i32_w]
    rfl
  refine pure_ (i := 3) (N := some 32) (v := ?_) (a' := ?_) #[true, true, true, true, false, false, false, false, false, false, false, false, false, false, false, false, false, false, false, false, false, false, false, false, false, false, false, false, false] rfl rfl (by kernel_rfl) (fun _ _ _ h => h) (Or.inl ⟨by rfl, ?_⟩) ?_ ?_
  rotate_left
  · intro w'
    go_simp
    with_reducible rfl
  rotate_left
  · simp only [Act.put, List.setIfInBounds_toArray, List.set_cons_zero, List.set_cons_succ, i64_w, i32_w]
    rfl
  refine pure_ (i := 5) (N := some 34) (v := ?_) (a' := ?_) #[true, true, true, true, false, true, false, false, false, false, false, false, false, false, false, false, false, false, false, false, false, false, false, false, false, false, false, false, false] rfl rfl (by kernel_rfl) (fun _ _ _ h => h) (Or.inl ⟨by rfl, ?_⟩) ?_ ?_
  rotate_left
  · intro w'
    go_simp
    with_reducible rfl
  rotate_left
  · simp only [Act.put, List.setIfInBounds_toArray, List.set_cons_zero, List.set_cons_succ, i64_w, i32_w]
    rfl
  refine pure_ (i := 7) (N := some 36) (v := ?_) (a' := ?_) #[true, true, true, true, false, true, false, true, false, false, false, false, false, false, false, false, false, false, false, false, false, false, false, false, false, false, false, false, false] rfl rfl (by kernel_rfl) (fun _ _ _ h => h) (Or.inl ⟨by rfl, ?_⟩) ?_ ?_
  rotate_left
  · intro w'
    go_simp
    with_reducible rfl
  rotate_left
  · simp only [Act.put, List.setIfInBounds_toArray, List.set_cons_zero, List.set_cons_succ, i64_w, i32_w]
    rfl
  refine pure_ (i := 9) (N := some 38) (v := ?_) (a' := ?_) #[true, true, true, true, false, true, false, true, false, true, false, false, false, false, false, false, false, false, false, false, false, false, false, false, false, false, false, false, false] rfl rfl (by kernel_rfl) (fun _ _ _ h => h) (Or.inl ⟨by rfl, ?_⟩) ?_ ?_
  rotate_left
  · intro w'
    go_simp
    with_reducible rfl
  rotate_left
  · simp only [Act.put, List.setIfInBounds_toArray, List.set_cons_zero, List.set_cons_succ, i64_w, i32_w]
    rfl
  refine pure_ (i := 12) (N := some 41) (v := ?_) (a' := ?_) #[true, true, true, true, false, true, false, true, false, true, false, false, true, false, false, false, false, false, false, false, false, false, false, false, false, false, false, false, false] rfl rfl (by kernel_rfl) (fun _ _ _ h => h) (Or.inl ⟨by rfl, ?_⟩) ?_ ?_
  rotate_left
  · intro w'
    go_simp
    with_reducible rfl
  rotate_left
  · simp only [Act.put, List.setIfInBounds_toArray, List.set_cons_zero, List.set_cons_succ, i64_w, i32_w]
    rfl
  refine pure_ (i := 13) (N := some 42) (v := ?_) (a' := ?_) #[true, true, true, true, false, true, false, true, false, true, false, false, true, true, false, false, false, false, false, false, false, false, false, false, false, false, false, false, false] rfl rfl (by kernel_rfl) (fun _ _ _ h => h) (Or.inl ⟨by rfl, ?_⟩) ?_ ?_
  rotate_left
  · intro w'
    go_simp
    with_reducible rfl
  rotate_left
  · simp only [Act.put, List.setIfInBounds_toArray, List.set_cons_zero, List.set_cons_succ, i64_w, i32_w]
    rfl
  refine pure_ (i := 15) (N := some 44) (v := ?_) (a' := ?_) #[true, true, true, true, false, true, false, true, false, true, false, false, true, true, false, true, false, false, false, false, false, false, false, false, false, false, false, false, false] rfl rfl (by kernel_rfl) (fun _ _ _ h => h) (Or.inl ⟨by rfl, ?_⟩) ?_ ?_
  rotate_left
  · intro w'
    go_simp
    with_reducible rfl
  rotate_left
  · simp only [Act.put, List.setIfInBounds_toArray, List.set_cons_zero, List.set_cons_succ, i64_w, i32_w]
    rfl
  refine pure_ (i := 16) (N := some 45) (v := ?_) (a' := ?_) #[true, true, true, true, false, true, false, true, false, true, false, false, true, true, false, true, true, false, false, false, false, false, false, false, false, false, false, false, false] rfl rfl (by kernel_rfl) (fun _ _ _ h => h) (Or.inl ⟨by rfl, ?_⟩) ?_ ?_
  rotate_left
  · intro w'
    go_simp
    with_reducible rfl
  rotate_left
  · simp only [Act.put, List.setIfInBounds_toArray, List.set_cons_zero, List.set_cons_succ, i64_w, i32_w]
    rfl
  refine pure_ (i := 20) (N := some 49) (v := ?_) (a' := ?_) #[true, true, true, true, false, true, false, true, false, true, false, false, true, true, false, true, true, false, false, false, true, false, false, false, false, false, false, false, false] rfl rfl (by kernel_rfl) (fun _ _ _ h => h) (Or.inl ⟨by rfl, ?_⟩) ?_ ?_
  rotate_left
  · intro w'
    go_simp
    with_reducible rfl
  rotate_left
  · simp only [Act.put, List.setIfInBounds_toArray, List.set_cons_zero, List.set_cons_succ, i64_w, i32_w]
    rfl
  refine take_ (i := 4) (N := some 33) (v := ?_) (a' := ?_) #[true, true, true, true, true, true, false, true, false, true, false, false, true, true, false, true, true, false, false, false, true, false, false, false, false, false, false, false, false] rfl rfl (by kernel_rfl) (fun _ _ _ h => h) (Or.inl ⟨by rfl, ?_⟩) hHeld ?_ ?_
  rotate_left
  · rintro w' ⟨s0, s1, s2, s3, s4⟩
    go_simp
    with_reducible rfl
  rotate_left
  · simp only [Act.put, List.setIfInBounds_toArray, List.set_cons_zero, List.set_cons_succ, i64_w, i32_w]
    rfl
  refine take_ (i := 6) (N := some 35) (v := ?_) (a' := ?_) #[true, true, true, true, true, true, true, true, false, true, false, false, true, true, false, true, true, false, false, false, true, false, false, false, false, false, false, false, false] rfl rfl (by kernel_rfl) (fun _ _ _ h => h) (Or.inl ⟨by rfl, ?_⟩) hHeld ?_ ?_
  rotate_left
  · rintro w' ⟨s0, s1, s2, s3, s4⟩
    go_simp
    with_reducible rfl
  rotate_left
  · simp only [Act.put, List.setIfInBounds_toArray, List.set_cons_zero, List.set_cons_succ, i64_w, i32_w]
    rfl
  refine take_ (i := 8) (N := some 37) (v := ?_) (a' := ?_) #[true, true, true, true, true, true, true, true, true, true, false, false, true, true, false, true, true, false, false, false, true, false, false, false, false, false, false, false, false] rfl rfl (by kernel_rfl) (fun _ _ _ h => h) (Or.inl ⟨by rfl, ?_⟩) hHeld ?_ ?_
  rotate_left
  · rintro w' ⟨s0, s1, s2, s3, s4⟩
    go_simp
    with_reducible rfl
  rotate_left
  · simp only [Act.put, List.setIfInBounds_toArray, List.set_cons_zero, List.set_cons_succ, i64_w, i32_w]
    rfl
  refine take_ (i := 10) (N := some 39) (v := ?_) (a' := ?_) #[true, true, true, true, true, true, true, true, true, true, true, false, true, true, false, true, true, false, false, false, true, false, false, false, false, false, false, false, false] rfl rfl (by kernel_rfl) (fun _ _ _ h => h) (Or.inl ⟨by rfl, ?_⟩) hHeld ?_ ?_
  rotate_left
  · rintro w' ⟨s0, s1, s2, s3, s4⟩
    go_simp
    with_reducible rfl
  rotate_left
  · simp only [Act.put, List.setIfInBounds_toArray, List.set_cons_zero, List.set_cons_succ, i64_w, i32_w]
    rfl
  refine pure_ (i := 11) (N := some 40) (v := ?_) (a' := ?_) #[true, true, true, true, true, true, true, true, true, true, true, true, true, true, false, true, true, false, false, false, true, false, false, false, false, false, false, false, false] rfl rfl (by kernel_rfl) (fun _ _ _ h => h) (Or.inl ⟨by rfl, ?_⟩) ?_ ?_
  rotate_left
  · intro w'
    go_simp
    with_reducible rfl
  rotate_left
  · simp only [Act.put, List.setIfInBounds_toArray, List.set_cons_zero, List.set_cons_succ, i64_w, i32_w]
    rfl
  refine take_ (i := 14) (N := some 43) (v := ?_) (a' := ?_) #[true, true, true, true, true, true, true, true, true, true, true, true, true, true, true, true, true, false, false, false, true, false, false, false, false, false, false, false, false] rfl rfl (by kernel_rfl) (fun _ _ _ h => h) (Or.inl ⟨by rfl, ?_⟩) hHeld ?_ ?_
  rotate_left
  · rintro w' ⟨s0, s1, s2, s3, s4⟩
    go_simp
    with_reducible rfl
  rotate_left
  · simp only [Act.put, List.setIfInBounds_toArray, List.set_cons_zero, List.set_cons_succ, i64_w, i32_w]
    rfl
  refine pure_ (i := 17) (N := some 46) (v := ?_) (a' := ?_) #[true, true, true, true, true, true, true, true, true, true, true, true, true, true, true, true, true, true, false, false, true, false, false, false, false, false, false, false, false] rfl rfl (by kernel_rfl) (fun _ _ _ h => h) (Or.inl ⟨by rfl, ?_⟩) ?_ ?_
  rotate_left
  · intro w'
    go_simp
    with_reducible rfl
  rotate_left
  · simp only [Act.put, List.setIfInBounds_toArray, List.set_cons_zero, List.set_cons_succ, i64_w, i32_w]
    rfl
  refine take_ (i := 18) (N := some 47) (v := ?_) (a' := ?_) #[true, true, true, true, true, true, true, true, true, true, true, true, true, true, true, true, true, true, true, false, true, false, false, false, false, false, false, false, false] rfl rfl (by kernel_rfl) (fun _ _ _ h => h) (Or.inl ⟨by rfl, ?_⟩) hHeld ?_ ?_
  rotate_left
  · rintro w' ⟨s0, s1, s2, s3, s4⟩
    go_simp
    with_reducible rfl
  rotate_left
  · simp only [Act.put, List.setIfInBounds_toArray, List.set_cons_zero, List.set_cons_succ, i64_w, i32_w]
    rfl
  refine pure_ (i := 19) (N := some 48) (v := ?_) (a' := ?_) #[true, true, true, true, true, true, true, true, true, true, true, true, true, true, true, true, true, true, true, true, true, false, false, false, false, false, false, false, false] rfl rfl (by kernel_rfl) (fun _ _ _ h => h) (Or.inl ⟨by rfl, ?_⟩) ?_ ?_
  rotate_left
  · intro w'
    go_simp
    with_reducible rfl
  rotate_left
  · simp only [Act.put, List.setIfInBounds_toArray, List.set_cons_zero, List.set_cons_succ, i64_w, i32_w]
    rfl
  refine take_ (i := 21) (N := some 50) (v := ?_) (a' := ?_) #[true, true, true, true, true, true, true, true, true, true, true, true, true, true, true, true, true, true, true, true, true, true, false, false, false, false, false, false, false] rfl rfl (by kernel_rfl) (fun _ _ _ h => h) (Or.inl ⟨by rfl, ?_⟩) hHeld ?_ ?_
  rotate_left
  · rintro w' ⟨s0, s1, s2, s3, s4⟩
    go_simp
    with_reducible rfl
  rotate_left
  · simp only [Act.put, List.setIfInBounds_toArray, List.set_cons_zero, List.set_cons_succ, i64_w, i32_w]
    rfl
  refine one_ (i := 22) (N := some 51) #[true, true, true, true, true, true, true, true, true, true, true, true, true, true, true, true, true, true, true, true, true, true, true, false, false, false, false, false, false] rfl rfl (by kernel_rfl) (by decide) (fun K hK => ?_)
  refine goes_ Tryd.func12 (by kernel_rfl) rfl #[.slice A3 b.length c3] (by rfl) rfl rfl (by simp only [List.map_toArray, List.map_cons, List.map_nil]; rfl) ?_
  with_reducible refine (drumlineref1_Copy.calls A3 c3 b b _ HC0.out HCL.out (copy_ok HBL.out)).mono ?_
  rintro e w3 ⟨v3, rfl, ho3, hb3⟩
  obtain ⟨A4, c4, rfl⟩ := Kd.R_slice ho3
  have HB3 := Aside0.mk (HB0.out.trans (hb3.mono (Nat.le_of_lt (blk_lt HX0.out))))
  have HX3 := Aside0.mk ((hb3.block xb (blk_lt HX0.out)).trans HX0.out)
  have HG3 := Aside0.mk ((hb3.block g (blk_lt HG0.out)).trans HG0.out)
  have HR3 := Aside0.mk (Kd.R_below HR0.out hb3)
  clear ho3 hb3
  refine ⟨_, rfl, ?_⟩
  refine hK.out _ _ ⟨((blk_cell HG3.out 7).trans rfl), ((blk_cell HX3.out 0).trans rfl), ((blk_cell HX3.out 2).trans rfl), ((blk_cell HG3.out 5).trans rfl), ((blk_cell HX3.out 3).trans rfl)⟩ (fun hHeld => ?_)
  clear hK K
  refine norm_ (a' := ?_) ?_ ?_
  rotate_left
  · show Act.put _ (some 51) _ = _
    simp only [Act.put, List.setIfInBounds_toArray, List.set_cons_zero, List.set_cons_succ, i64_w, i32_w]
    rfl
  refine pure_ (i := 23) (N := some 52) (v := ?_) (a' := ?_) #[true, true, true, true, true, true, true, true, true, true, true, true, true, true, true, true, true, true, true, true, true, true, true, true, false, false, false, false, false] rfl rfl (by kernel_rfl) (fun _ _ _ h => h) (Or.inl ⟨by rfl, ?_⟩) ?_ ?_
  rotate_left
  · intro w'
    go_simp
    with_reducible rfl
  rotate_left
  · simp only [Act.put, List.setIfInBounds_toArray, List.set_cons_zero, List.set_cons_succ, i64_w, i32_w]
    rfl
  refine one_ (i := 24) (N := some 53) #[true, true, true, true, true, true, true, true, true, true, true, true, true, true, true, true, true, true, true, true, true, true, true, true, true, false, false, false, false] rfl rfl (by kernel_rfl) (by decide) (fun K hK => ?_)
  refine value_ (w1 := ?_) (v := ?_) (by rfl) rfl ?_ ?_
  rotate_left 2
  · go_simp
    constructor
    · rfl
    · rfl
  have kb4 := below_alloc (Below.refl w3.heap.size w3) (.cells #[.int .i64 4, .int .i64 sq, .bool (wrap64 (sq - 1) != f 4), .slice A4 b.length c4] 52)
  have HX4 := Aside0.mk ((kb4.block xb (blk_lt HX3.out)).trans HX3.out)
  have HG4 := Aside0.mk ((kb4.block g (blk_lt HG3.out)).trans HG3.out)
  clear kb4
  refine hK.out _ _ ⟨((blk_cell HG4.out 7).trans rfl), ((blk_cell HX4.out 0).trans rfl), ((blk_cell HX4.out 2).trans rfl), ((blk_cell HG4.out 5).trans rfl), ((blk_cell HX4.out 3).trans rfl)⟩ (fun hHeld => ?_)
  clear hK K
  refine norm_ (a' := ?_) ?_ ?_
  rotate_left
  · show Act.put _ (some 53) _ = _
    simp only [Act.put, List.setIfInBounds_toArray, List.set_cons_zero, List.set_cons_succ, i64_w, i32_w]
    rfl
  refine one_ (i := 25) (N := some 54) #[true, true, true, true, true, true, true, true, true, true, true, true, true, true, true, true, true, true, true, true, true, true, true, true, true, true, false, false, false] rfl rfl (by kernel_rfl) (by decide) (fun K hK => ?_)
  refine Kd.R_append_step lgk (w0 := w3) base (by rfl) (.tmp 33) (.tmp 53) 22 52 (.agg #[.int .i64 0, .int .i64 0, .bool false, .slice none 0 0]) 48 rfl Tryd.underlying22 hinfoG rfl (by decide) (by omega) (.slice A L.length c) L (⟨4, sq, (wrap64 (sq - 1) != f 4), b⟩ : S52) [.int .i64 4, .int .i64 sq, .bool (wrap64 (sq - 1) != f 4), .slice A4 b.length c4] (fun k => k ≠ g ∧ k ≠ xb) (fun _ => False) rfl rfl ⟨A4, _, c4, rfl⟩ (fun _ hk => hk.elim) (fun k hk => ⟨(by have := blk_lt HG3.out; omega), (by have := blk_lt HX3.out; omega)⟩) HR3.out (Below.refl _ _) (by have := blk_lt HG3.out; omega) (by have := HLL.out; omega) ?_
  intro v5 w5 ho5 hb5 hg5 hat5
  obtain ⟨A5, c5, rfl⟩ := Kd.R_slice ho5
  have HB5 := Aside0.mk hb5
  have HX5 := Aside0.mk ((hg5.block xb (blk_lt HX3.out) (fun e => (HR3.out.1 xb e.symm).2 rfl)).trans HX3.out)
  have HG5 := Aside0.mk ((hg5.block g (blk_lt HG3.out) (fun e => (HR3.out.1 g e.symm).1 rfl)).trans HG3.out)
  have HR5 := Aside0.mk ho5
  have f7 := blk_frozen HG5.out 7
  clear ho5 hb5 hg5 hat5
  refine hK.out _ _ ⟨((blk_cell HG5.out 7).trans rfl), ((blk_cell HX5.out 0).trans rfl), ((blk_cell HX5.out 2).trans rfl), ((blk_cell HG5.out 5).trans rfl), ((blk_cell HX5.out 3).trans rfl)⟩ (fun hHeld => ?_)
  clear hK K
  refine norm_ (a' := ?_) ?_ ?_
  rotate_left
  · show Act.put _ (some 54) _ = _
    simp only [Act.put, List.setIfInBounds_toArray, List.set_cons_zero, List.set_cons_succ, i64_w, i32_w]
    rfl
  refine pure_ (i := 26) (N := some 55) (v := ?_) (a' := ?_) #[true, true, true, true, true, true, true, true, true, true, true, true, true, true, true, true, true, true, true, true, true, true, true, true, true, true, true, false, false] rfl rfl (by kernel_rfl) (fun _ _ _ h => h) (Or.inl ⟨by rfl, ?_⟩) ?_ ?_
  rotate_left
  · intro w'
    go_simp
    with_reducible rfl
  rotate_left
  · simp only [Act.put, List.setIfInBounds_toArray, List.set_cons_zero, List.set_cons_succ, i64_w, i32_w]
    rfl
  refine pure_ (i := 27) (N := some 56) (v := ?_) (a' := ?_) #[true, true, true, true, true, true, true, true, true, true, true, true, true, true, true, true, true, true, true, true, true, true, true, true, true, true, true, true, false] rfl rfl (by kernel_rfl) (fun _ _ _ h => h) (Or.inl ⟨by rfl, ?_⟩) ?_ ?_
  rotate_left
  · intro w'
    go_simp
    with_reducible rfl
  rotate_left
  · simp only [Act.put, List.setIfInBounds_toArray, List.set_cons_zero, List.set_cons_succ, i64_w, i32_w]
    rfl
  refine last_ (i := 28) (N := none) #[true, true, true, true, true, true, true, true, true, true, true, true, true, true, true, true, true, true, true, true, true, true, true, true, true, true, true, true, true] rfl rfl (by kernel_rfl) (by decide) (fun K hK => ?_)
  refine skip_ (w1 := ?_) (by rfl) rfl ?_ ?_
  rotate_left
  · go_simp
    rfl
  refine hK.out _ _ ?_
  clear hK K
  refine done_ (by kernel_rfl) ?_
  have hlen : (L ++ [(⟨4, sq, (wrap64 (sq - 1) != f 4), b⟩ : S52)]).length = L.length + 1 := by simp
  have HG6 := Aside0.mk (blk_set HG5.out 7 (.slice A5 (L.length + 1) c5))
  have HX6 := Aside0.mk (blk_far (p := ⟨g, 7, none⟩) HX5.out (show xb ≠ g by have := HLT.out; omega) (.slice A5 (L.length + 1) c5))
  have HR6 := Aside0.mk (Kd.R_far (p := ⟨g, 7, none⟩) HR5.out (fun k hk => hk.1) (.slice A5 (L.length + 1) c5))
  have HB6 : Aside0 (Below base w (w5.setCell ⟨g, 7, none⟩ (.slice A5 (L.length + 1) c5))) := ⟨((HB3.out.mono (Nat.le_trans lo (Nat.le_of_lt HLT.out))).trans HB5.out).setCell lo _⟩
  have HLEN := Aside0.mk hlen
  clear hlen f7
  generalize w5.setCell ⟨g, 7, none⟩ (.slice A5 (L.length + 1) c5) = w6 at *
  have x0 : w6.cell? ⟨xb, 0, none⟩ = some (.int .i64 4) := (blk_cell HX6.out 0).trans rfl
  have x2 : w6.cell? ⟨xb, 2, none⟩ = some (.int .i64 sq) := (blk_cell HX6.out 2).trans rfl
  have c1 : w6.cell? ⟨g, 5, none⟩ = some (.int .i64 (f 4)) := (blk_cell HG6.out 5).trans rfl
  have z1 := blk_frozen HG6.out 5
  go_wp2
  go_region
  all_goals go_wp2
  all_goals
    go_ret
    refine ⟨rfl, ⟨⟨A5, c5, ?_, ?_⟩, lo⟩, (below_drew HB6.out).setCell lo _⟩
    · have : (w6.setCell ⟨g, 5, none⟩ (.int .i64 sq)).drew.heap[g]? = _ := blk_set (w := w6) HG6.out 5 (.int .i64 sq)
      rw [HLEN.out]
      simpa using this
    · exact Kd.R_mono (Kd.R_far (p := ⟨g, 5, none⟩) (Kd.R_drew HR6.out) (fun k hk => hk.1) _) (fun k hk => hk.1)
set_option maxHeartbeats 8000000 in
theorem hand_yes5 (tt sq : Int) (A3 : Option Addr) (c3 : Nat) (b : List Int) (w : World) (H : Lg w base g f L) (hC : Kd.C (Kd.int .u8) w A3 b.length b) (hcl : b.length ≤ c3) (hbl : b.length < 140737488355328) (hL : L.length ≤ 1000) (h : f 5 < sq) :
    Calls Tryd.prog 6 #[.pointer (some ⟨g, 0, none⟩), .agg #[.int .i64 5, .int .i64 tt, .int .i64 sq, .slice A3 b.length c3]] w fun e w' => e = .returned (.bool true) ∧ Lg w' base g (fun i => if i = 5 then sq else f i) (L ++ [(⟨5, sq, (wrap64 (sq - 1) != f 5), b⟩ : S52)]) ∧ Below base w w' := by
  have HC := Aside0.mk hC
  have HCL := Aside0.mk hcl
  have HBL := Aside0.mk hbl
  have HLL := Aside0.mk hL
  clear hC hcl hbl hL
  have d1 : decide (sq ≤ f 5) = false := decide_eq_false (by omega)
  obtain ⟨⟨A, c, hb, hr⟩, lo⟩ := H
  have HH := Aside0.mk (Lg.mk (f := f) (L := L) ⟨A, c, hb, hr⟩ lo)
  have HG := Aside0.mk hb
  have HLT := Aside0.mk (blk_lt hb)
  have HRW : Aside0 (Kd.R lgk 52 w base (fun k => k ≠ g ∧ k ≠ w.heap.size) (.slice A L.length c) L) := ⟨Kd.R_mono (Kd.R_bound hr) (fun k hk => ⟨hk.1, Nat.ne_of_lt hk.2.2.1⟩)⟩
  clear hr hb
  go_enter Tryd.func6, Tryd.ntmps6
  go_wp2
  have kb := below_alloc (Below.refl w.heap.size w) (.cells #[.int .i64 5, .int .i64 tt, .int .i64 sq, .slice A3 b.length c3] 30)
  have HX := Aside0.mk (heap_alloc_new w (.cells #[.int .i64 5, .int .i64 tt, .int .i64 sq, .slice A3 b.length c3] 30))
  have H1 := Aside0.mk (HH.out.more kb)
  have HG1 := Aside0.mk ((kb.block g (blk_lt HG.out)).trans HG.out)
  have HB := Aside0.mk kb
  have HRW_ := Aside0.mk (Kd.R_below HRW.out kb)
  have HRW := HRW_
  have HC1 := Aside0.mk (Kd.C_below HC.out kb)
  clear HRW_ kb
  generalize w.alloc (.cells #[.int .i64 5, .int .i64 tt, .int .i64 sq, .slice A3 b.length c3] 30) = w1 at *
  generalize w.heap.size = xb at *
  have x0 : w1.cell? ⟨xb, 0, none⟩ = some (.int .i64 5) := (blk_cell HX.out 0).trans rfl
  have x2 : w1.cell? ⟨xb, 2, none⟩ = some (.int .i64 sq) := (blk_cell HX.out 2).trans rfl
  have c0 : w1.cell? ⟨g, 0, none⟩ = some (.int .i64 6) := (blk_cell HG1.out 0).trans rfl
  have c1 : w1.cell? ⟨g, 6, none⟩ = some (.int .i64 (f 5)) := (blk_cell HG1.out 6).trans rfl
  go_quiet (fail)
  go_wp2
  have HB0 : Aside0 (Below xb w (w1.drewN nq).drew) := ⟨pw_below_drewN HB.out (nq + 1)⟩
  have HX0 : Aside0 ((w1.drewN nq).drew.heap[xb]? = _) := ⟨HX.out⟩
  have HG0 : Aside0 ((w1.drewN nq).drew.heap[g]? = _) := ⟨HG1.out⟩
  have HC0 : Aside0 (Kd.C (Kd.int .u8) (w1.drewN nq).drew A3 b.length b) := Aside0.mk (Kd.C_below HC1.out (pw_below_drewN (Below.refl w1.heap.size w1) (nq + 1)))
  have HR0 : Aside0 (Kd.R lgk 52 (w1.drewN nq).drew base (fun k => k ≠ g ∧ k ≠ xb) (.slice A L.length c) L) := Aside0.mk (Kd.R_below (Kd.R_drewN HRW.out nq) (pw_below_drewN (Below.refl _ _) 1))
  refine start_ (n := 29) (S := fun w' => w'.cell? ⟨g, 7, none⟩ = some (.slice A L.length c) ∧ w'.cell? ⟨xb, 0, none⟩ = some (.int .i64 5) ∧ w'.cell? ⟨xb, 2, none⟩ = some (.int .i64 sq) ∧ w'.cell? ⟨g, 6, none⟩ = some (.int .i64 (f 5)) ∧ w'.cell? ⟨xb, 3, none⟩ = some (.slice A3 b.length c3)) (ds := [28]) #[false, false, false, false, false, false, false, false, false, false, false, false, false, false, false, false, false, false, false, false, false, false, false, false, false, false, false, false, false] (by kernel_rfl) rfl rfl ⟨((blk_cell HG0.out 7).trans rfl), ((blk_cell HX0.out 0).trans rfl), ((blk_cell HX0.out 2).trans rfl), ((blk_cell HG0.out 6).trans rfl), ((blk_cell HX0.out 3).trans rfl)⟩ (fun hHeld => ?_)
  generalize (w1.drewN nq).drew = wd at HB0 HX0 HG0 HR0 HC0 hHeld ⊢
  refine pure_ (i := 0) (N := some 29) (v := ?_) (a' := ?_) #[true, false, false, false, false, false, false, false, false, false, false, false, false, false, false, false, false, false, false, false, false, false, false, false, false, false, false, false, false] rfl rfl (by kernel_rfl) (fun _ _ _ h => h) (Or.inl ⟨by rfl, ?_⟩) ?_ ?_
  rotate_left
  · intro w'
    go_simp
    with_reducible rfl
  rotate_left
  · simp only [Act.put, List.setIfInBounds_toArray, List.set_cons_zero, List.set_cons_succ, i64_w, i32_w]
    rfl
  refine pure_ (i := 1) (N := some 30) (v := ?_) (a' := ?_) #[true, true, false, false, false, false, false, false, false, false, false, false, false, false, false, false, false, false, false, false, false, false, false, false, false, false, false, false, false] rfl rfl (by kernel_rfl) (fun _ _ _ h => h) (Or.inl ⟨by rfl, ?_⟩) ?_ ?_
  rotate_left
  · intro w'
    go_simp
    with_reducible rfl
  rotate_left
  · simp only [Act.put, List.setIfInBounds_toArray, List.set_cons_zero, List.set_cons_succ, i64_w, i32_w]
    rfl
  refine pure_ (i := 2) (N := some 31) (v := ?_) (a' := ?_) #[true, true, true, false, false, false, false, false, false, false, false, false, false, false, false, false, false, false, false, false, false, false, false, false, false, false, false, false, false] rfl rfl (by kernel_rfl) (fun _ _ _ h => h) (Or.inl ⟨by rfl, ?_⟩) ?_ ?_
  rotate_left
  · intro w'
    go_simp
    with_reducible rfl
  rotate_left
  · simp only [Act.put, List.setIfInBounds_toArray, List.set_cons_zero, List.set_cons_succ, i64_w, i32_w]
    rfl
  refine pure_ (i := 3) (N := some 32) (v := ?_) (a' := ?_) #[true, true, true, true, false, false, false, false, false, false, false, false, false, false, false, false, false, false, false, false, false, false, false, false, false, false, false, false, false] rfl rfl (by kernel_rfl) (fun _ _ _ h => h) (Or.inl ⟨by rfl, ?_⟩) ?_ ?_
  rotate_left
  · intro w'
    go_simp
    with_reducible rfl
  rotate_left
  · simp only [Act.put, List.setIfInBounds_toArray, List.set_cons_zero, List.set_cons_succ, i64_w, i32_w]
    rfl
  refine pure_ (i := 5) (N := some 34) (v := ?_) (a' := ?_) #[true, true, true, true, false, true, false, false, false, false, false, false, false, false, false, false, false, false, false, false, false, false, false, false, false, false, false, false, false] rfl rfl (by kernel_rfl) (fun _ _ _ h => h) (Or.inl ⟨by rfl, ?_⟩) ?_ ?_
  rotate_left
  · intro w'
    go_simp
    with_reducible rfl
  rotate_left
  · simp only [Act.put, List.setIfInBounds_toArray, List.set_cons_zero, List.set_cons_succ, i64_w, i32_w]
    rfl
  refine pure_ (i := 7) (N := some 36) (v := ?_) (a' := ?_) #[true, true, true, true, false, true, false, true, false, false, false, false, false, false, false, false, false, false, false, false, false, false, false, false, false, false, false, false, false] rfl rfl (by kernel_rfl) (fun _ _ _ h => h) (Or.inl ⟨by rfl, ?_⟩) ?_ ?_
  rotate_left
  · intro w'
    go_simp
    with_reducible rfl
  rotate_left
  · simp only [Act.put, List.setIfInBounds_toArray, List.set_cons_zero, List.set_cons_succ, i64_w, i32_w]
    rfl
  refine pure_ (i := 9) (N := some 38) (v := ?_) (a' := ?_) #[true, true, true, true, false, true, false, true, false, true, false, false, false, false, false, false, false, false, false, false, false, false, false, false, false, false, false, false, false] rfl rfl (by kernel_rfl) (fun _ _ _ h => h) (Or.inl ⟨by rfl, ?_⟩) ?_ ?_
  rotate_left
  · intro w'
    go_simp
    with_reducible rfl
  rotate_left
  · simp only [Act.put, List.setIfInBounds_toArray, List.set_cons_zero, List.set_cons_succ, i64_w, i32_w]
    rfl
  refine pure_ (i := 12) (N := some 41) (v := ?_) (a' := ?_) #[true, true, true, true, false, true, false, true, false, true, false, false, true, false, false, false, false, false, false, false, false, false, false, false, false, false, false, false, false] rfl rfl (by kernel_rfl) (fun _ _ _ h => h) (Or.inl ⟨by rfl, ?_⟩) ?_ ?_
  rotate_left
  · intro w'
    go_simp
    with_reducible rfl
  rotate_left
  · simp only [Act.put, List.setIfInBounds_toArray, List.set_cons_zero, List.set_cons_succ, i64_w, i32_w]
    rfl
  refine pure_ (i := 13) (N := some 42) (v := ?_) (a' := ?_) #[true, true, true, true, false, true, false, true, false, true, false, false, true, true, false, false, false, false, false, false, false, false, false, false, false, false, false, false, false] rfl rfl (by kernel_rfl) (fun _ _ _ h => h) (Or.inl ⟨by rfl, ?_⟩) ?_ ?_
  rotate_left
  · intro w'
    go_simp
    with_reducible rfl
  rotate_left
  · simp only [Act.put, List.setIfInBounds_toArray, List.set_cons_zero, List.set_cons_succ, i64_w, i32_w]
    rfl
  refine pure_ (i := 15) (N := some 44) (v := ?_) (a' := ?_) #[true, true, true, true, false, true, false, true, false, true, false, false, true, true, false, true, false, false, false, false, false, false, false, false, false, false, false, false, false] rfl rfl (by kernel_rfl) (fun _ _ _ h => h) (Or.inl ⟨by rfl, ?_⟩) ?_ ?_
  rotate_left
  · intro w'
    go_simp
    with_reducible rfl
  rotate_left
  · simp only [Act.put, List.setIfInBounds_toArray, List.set_cons_zero, List.set_cons_succ, i64_w, i32_w]
    rfl
  refine pure_ (i := 16) (N := some 45) (v := ?_) (a' := ?_) #[true, true, true, true, false, true, false, true, false, true, false, false, true, true, false, true, true, false, false, false, false, false, false, false, false, false, false, false, false] rfl rfl (by kernel_rfl) (fun _ _ _ h => h) (Or.inl ⟨by rfl, ?_⟩) ?_ ?_
  rotate_left
  · intro w'
    go_simp
    with_reducible rfl
  rotate_left
  · simp only [Act.put, List.setIfInBounds_toArray, List.set_cons_zero, List.set_cons_succ, i64_w, i32_w]
    rfl
  refine pure_ (i := 20) (N := some 49) (v := ?_) (a' := ?_) #[true, true, true, true, false, true, false, true, false, true, false, false, true, true, false, true, true, false, false, false, true, false, false, false, false, false, false, false, false] rfl rfl (by kernel_rfl) (fun _ _ _ h => h) (Or.inl ⟨by rfl, ?_⟩) ?_ ?_
  rotate_left
  · intro w'
    go_simp
    with_reducible rfl
  rotate_left
  · simp only [Act.put, List.setIfInBounds_toArray, List.set_cons_zero, List.set_cons_succ, i64_w, i32_w]
    rfl
  refine take_ (i := 4) (N := some 33) (v := ?_) (a' := ?_) #[true, true, true, true, true, true, false, true, false, true, false, false, true, true, false, true, true, false, false, false, true, false, false, false, false, false, false, false, false] rfl rfl (by kernel_rfl) (fun _ _ _ h => h) (Or.inl ⟨by rfl, ?_⟩) hHeld ?_ ?_
  rotate_left
  · rintro w' ⟨s0, s1, s2, s3, s4⟩
    go_simp
    with_reducible rfl
  rotate_left
  · simp only [Act.put, List.setIfInBounds_toArray, List.set_cons_zero, List.set_cons_succ, i64_w, i32_w]
    rfl
  refine take_ (i := 6) (N := some 35) (v := ?_) (a' := ?_) #[true, true, true, true, true, true, true, true, false, true, false, false, true, true, false, true, true, false, false, false, true, false, false, false, false, false, false, false, false] rfl rfl (by kernel_rfl) (fun _ _ _ h => h) (Or.inl ⟨by rfl, ?_⟩) hHeld ?_ ?_
  rotate_left
  · rintro w' ⟨s0, s1, s2, s3, s4⟩
    go_simp
    with_reducible rfl
  rotate_left
  · simp only [Act.put, List.setIfInBounds_toArray, List.set_cons_zero, List.set_cons_succ, i64_w, i32_w]
    rfl
  refine take_ (i := 8) (N := some 37) (v := ?_) (a' := ?_) #[true, true, true, true, true, true, true, true, true, true, false, false, true, true, false, true, true, false, false, false, true, false, false, false, false, false, false, false, false] rfl rfl (by kernel_rfl) (fun _ _ _ h => h) (Or.inl ⟨by rfl, ?_⟩) hHeld ?_ ?_
  rotate_left
  · rintro w' ⟨s0, s1, s2, s3, s4⟩
    go_simp
    with_reducible rfl
  rotate_left
  · simp only [Act.put, List.setIfInBounds_toArray, List.set_cons_zero, List.set_cons_succ, i64_w, i32_w]
    rfl
  refine take_ (i := 10) (N := some 39) (v := ?_) (a' := ?_) #[true, true, true, true, true, true, true, true, true, true, true, false, true, true, false, true, true, false, false, false, true, false, false, false, false, false, false, false, false] rfl rfl (by kernel_rfl) (fun _ _ _ h => h) (Or.inl ⟨by rfl, ?_⟩) hHeld ?_ ?_
  rotate_left
  · rintro w' ⟨s0, s1, s2, s3, s4⟩
    go_simp
    with_reducible rfl
  rotate_left
  · simp only [Act.put, List.setIfInBounds_toArray, List.set_cons_zero, List.set_cons_succ, i64_w, i32_w]
    rfl
  refine pure_ (i := 11) (N := some 40) (v := ?_) (a' := ?_) #[true, true, true, true, true, true, true, true, true, true, true, true, true, true, false, true, true, false, false, false, true, false, false, false, false, false, false, false, false] rfl rfl (by kernel_rfl) (fun _ _ _ h => h) (Or.inl ⟨by rfl, ?_⟩) ?_ ?_
  rotate_left
  · intro w'
    go_simp
    with_reducible rfl
  rotate_left
  · simp only [Act.put, List.setIfInBounds_toArray, List.set_cons_zero, List.set_cons_succ, i64_w, i32_w]
    rfl
  refine take_ (i := 14) (N := some 43) (v := ?_) (a' := ?_) #[true, true, true, true, true, true, true, true, true, true, true, true, true, true, true, true, true, false, false, false, true, false, false, false, false, false, false, false, false] rfl rfl (by kernel_rfl) (fun _ _ _ h => h) (Or.inl ⟨by rfl, ?_⟩) hHeld ?_ ?_
  rotate_left
  · rintro w' ⟨s0, s1, s2, s3, s4⟩
    go_simp
    with_reducible rfl
  rotate_left
  · simp only [Act.put, List.setIfInBounds_toArray, List.set_cons_zero, List.set_cons_succ, i64_w, i32_w]
    rfl
  refine pure_ (i := 17) (N := some 46) (v := ?_) (a' := ?_) #[true, true, true, true, true, true, true, true, true, true, true, true, true, true, true, true, true, true, false, false, true, false, false, false, false, false, false, false, false] rfl rfl (by kernel_rfl) (fun _ _ _ h => h) (Or.inl ⟨by rfl, ?_⟩) ?_ ?_
  rotate_left
  · intro w'
    go_simp
    with_reducible rfl
  rotate_left
  · simp only [Act.put, List.setIfInBounds_toArray, List.set_cons_zero, List.set_cons_succ, i64_w, i32_w]
    rfl
  refine take_ (i := 18) (N := some 47) (v := ?_) (a' := ?_) #[true, true, true, true, true, true, true, true, true, true, true, true, true, true, true, true, true, true, true, false, true, false, false, false, false, false, false, false, false] rfl rfl (by kernel_rfl) (fun _ _ _ h => h) (Or.inl ⟨by rfl, ?_⟩) hHeld ?_ ?_
  rotate_left
  · rintro w' ⟨s0, s1, s2, s3, s4⟩
    go_simp
    with_reducible rfl
  rotate_left
  · simp only [Act.put, List.setIfInBounds_toArray, List.set_cons_zero, List.set_cons_succ, i64_w, i32_w]
    rfl
  refine pure_ (i := 19) (N := some 48) (v := ?_) (a' := ?_) #[true, true, true, true, true, true, true, true, true, true, true, true, true, true, true, true, true, true, true, true, true, false, false, false, false, false, false, false, false] rfl rfl (by kernel_rfl) (fun _ _ _ h => h) (Or.inl ⟨by rfl, ?_⟩) ?_ ?_
  rotate_left
  · intro w'
    go_simp
    with_reducible rfl
  rotate_left
  · simp only [Act.put, List.setIfInBounds_toArray, List.set_cons_zero, List.set_cons_succ, i64_w, i32_w]
    rfl
  refine take_ (i := 21) (N := some 50) (v := ?_) (a' := ?_) #[true, true, true, true, true, true, true, true, true, true, true, true, true, true, true, true, true, true, true, true, true, true, false, false, false, false, false, false, false] rfl rfl (by kernel_rfl) (fun _ _ _ h => h) (Or.inl ⟨by rfl, ?_⟩) hHeld ?_ ?_
  rotate_left
  · rintro w' ⟨s0, s1, s2, s3, s4⟩
    go_simp
    with_reducible rfl
  rotate_left
  · simp only [Act.put, List.setIfInBounds_toArray, List.set_cons_zero, List.set_cons_succ, i64_w, i32_w]
    rfl
  refine one_ (i := 22) (N := some 51) #[true, true, true, true, true, true, true, true, true, true, true, true, true, true, true, true, true, true, true, true, true, true, true, false, false, false, false, false, false] rfl rfl (by kernel_rfl) (by decide) (fun K hK => ?_)
  refine goes_ Tryd.func12 (by kernel_rfl) rfl #[.slice A3 b.length c3] (by rfl) rfl rfl (by simp only [List.map_toArray, List.map_cons, List.map_nil]; rfl) ?_
  with_reducible refine (drumlineref1_Copy.calls A3 c3 b b _ HC0.out HCL.out (copy_ok HBL.out)).mono ?_
  rintro e w3 ⟨v3, rfl, ho3, hb3⟩
  obtain ⟨A4, c4, rfl⟩ := Kd.R_slice ho3
  have HB3 := Aside0.mk (HB0.out.trans (hb3.mono (Nat.le_of_lt (blk_lt HX0.out))))
  have HX3 := Aside0.mk ((hb3.block xb (blk_lt HX0.out)).trans HX0.out)
  have HG3 := Aside0.mk ((hb3.block g (blk_lt HG0.out)).trans HG0.out)
  have HR3 := Aside0.mk (Kd.R_below HR0.out hb3)
  clear ho3 hb3
  refine ⟨_, rfl, ?_⟩
  refine hK.out _ _ ⟨((blk_cell HG3.out 7).trans rfl), ((blk_cell HX3.out 0).trans rfl), ((blk_cell HX3.out 2).trans rfl), ((blk_cell HG3.out 6).trans rfl), ((blk_cell HX3.out 3).trans rfl)⟩ (fun hHeld => ?_)
  clear hK K
  refine norm_ (a' := ?_) ?_ ?_
  rotate_left
  · show Act.put _ (some 51) _ = _
    simp only [Act.put, List.setIfInBounds_toArray, List.set_cons_zero, List.set_cons_succ, i64_w, i32_w]
    rfl
  refine pure_ (i := 23) (N := some 52) (v := ?_) (a' := ?_) #[true, true, true, true, true, true, true, true, true, true, true, true, true, true, true, true, true, true, true, true, true, true, true, true, false, false, false, false, false] rfl rfl (by kernel_rfl) (fun _ _ _ h => h) (Or.inl ⟨by rfl, ?_⟩) ?_ ?_
  rotate_left
  · intro w'
    go_simp
    with_reducible rfl
  rotate_left
  · simp only [Act.put, List.setIfInBounds_toArray, List.set_cons_zero, List.set_cons_succ, i64_w, i32_w]
    rfl
  refine one_ (i := 24) (N := some 53) #[true, true, true, true, true, true, true, true, true, true, true, true, true, true, true, true, true, true, true, true, true, true, true, true, true, false, false, false, false] rfl rfl (by kernel_rfl) (by decide) (fun K hK => ?_)
  refine value_ (w1 := ?_) (v := ?_) (by rfl) rfl ?_ ?_
  rotate_left 2
  · go_simp
    constructor
    · rfl
    · rfl
  have kb4 := below_alloc (Below.refl w3.heap.size w3) (.cells #[.int .i64 5, .int .i64 sq, .bool (wrap64 (sq - 1) != f 5), .slice A4 b.length c4] 52)
  have HX4 := Aside0.mk ((kb4.block xb (blk_lt HX3.out)).trans HX3.out)
  have HG4 := Aside0.mk ((kb4.block g (blk_lt HG3.out)).trans HG3.out)
  clear kb4
  refine hK.out _ _ ⟨((blk_cell HG4.out 7).trans rfl), ((blk_cell HX4.out 0).trans rfl), ((blk_cell HX4.out 2).trans rfl), ((blk_cell HG4.out 6).trans rfl), ((blk_cell HX4.out 3).trans rfl)⟩ (fun hHeld => ?_)
  clear hK K
  refine norm_ (a' := ?_) ?_ ?_
  rotate_left
  · show Act.put _ (some 53) _ = _
    simp only [Act.put, List.setIfInBounds_toArray, List.set_cons_zero, List.set_cons_succ, i64_w, i32_w]
    rfl
  refine one_ (i := 25) (N := some 54) #[true, true, true, true, true, true, true, true, true, true, true, true, true, true, true, true, true, true, true, true, true, true, true, true, true, true, false, false, false] rfl rfl (by kernel_rfl) (by decide) (fun K hK => ?_)
  refine Kd.R_append_step lgk (w0 := w3) base (by rfl) (.tmp 33) (.tmp 53) 22 52 (.agg #[.int .i64 0, .int .i64 0, .bool false, .slice none 0 0]) 48 rfl Tryd.underlying22 hinfoG rfl (by decide) (by omega) (.slice A L.length c) L (⟨5, sq, (wrap64 (sq - 1) != f 5), b⟩ : S52) [.int .i64 5, .int .i64 sq, .bool (wrap64 (sq - 1) != f 5), .slice A4 b.length c4] (fun k => k ≠ g ∧ k ≠ xb) (fun _ => False) rfl rfl ⟨A4, _, c4, rfl⟩ (fun _ hk => hk.elim) (fun k hk => ⟨(by have := blk_lt HG3.out; omega), (by have := blk_lt HX3.out; omega)⟩) HR3.out (Below.refl _ _) (by have := blk_lt HG3.out; omega) (by have := HLL.out; omega) ?_
  intro v5 w5 ho5 hb5 hg5 hat5
  obtain ⟨A5, c5, rfl⟩ := Kd.R_slice ho5
  have HB5 := Aside0.mk hb5
  have HX5 := Aside0.mk ((hg5.block xb (blk_lt HX3.out) (fun e => (HR3.out.1 xb e.symm).2 rfl)).trans HX3.out)
  have HG5 := Aside0.mk ((hg5.block g (blk_lt HG3.out) (fun e => (HR3.out.1 g e.symm).1 rfl)).trans HG3.out)
  have HR5 := Aside0.mk ho5
  have f7 := blk_frozen HG5.out 7
  clear ho5 hb5 hg5 hat5
  refine hK.out _ _ ⟨((blk_cell HG5.out 7).trans rfl), ((blk_cell HX5.out 0).trans rfl), ((blk_cell HX5.out 2).trans rfl), ((blk_cell HG5.out 6).trans rfl), ((blk_cell HX5.out 3).trans rfl)⟩ (fun hHeld => ?_)
  clear hK K
  refine norm_ (a' := ?_) ?_ ?_
  rotate_left
  · show Act.put _ (some 54) _ = _
    simp only [Act.put, List.setIfInBounds_toArray, List.set_cons_zero, List.set_cons_succ, i64_w, i32_w]
    rfl
  refine pure_ (i := 26) (N := some 55) (v := ?_) (a' := ?_) #[true, true, true, true, true, true, true, true, true, true, true, true, true, true, true, true, true, true, true, true, true, true, true, true, true, true, true, false, false] rfl rfl (by kernel_rfl) (fun _ _ _ h => h) (Or.inl ⟨by rfl, ?_⟩) ?_ ?_
  rotate_left
  · intro w'
    go_simp
    with_reducible rfl
  rotate_left
  · simp only [Act.put, List.setIfInBounds_toArray, List.set_cons_zero, List.set_cons_succ, i64_w, i32_w]
    rfl
  refine pure_ (i := 27) (N := some 56) (v := ?_) (a' := ?_) #[true, true, true, true, true, true, true, true, true, true, true, true, true, true, true, true, true, true, true, true, true, true, true, true, true, true, true, true, false] rfl rfl (by kernel_rfl) (fun _ _ _ h => h) (Or.inl ⟨by rfl, ?_⟩) ?_ ?_
  rotate_left
  · intro w'
    go_simp
    with_reducible rfl
  rotate_left
  · simp only [Act.put, List.setIfInBounds_toArray, List.set_cons_zero, List.set_cons_succ, i64_w, i32_w]
    rfl
  refine last_ (i := 28) (N := none) #[true, true, true, true, true, true, true, true, true, true, true, true, true, true, true, true, true, true, true, true, true, true, true, true, true, true, true, true, true] rfl rfl (by kernel_rfl) (by decide) (fun K hK => ?_)
  refine skip_ (w1 := ?_) (by rfl) rfl ?_ ?_
  rotate_left
  · go_simp
    rfl
  refine hK.out _ _ ?_
  clear hK K
  refine done_ (by kernel_rfl) ?_
  have hlen : (L ++ [(⟨5, sq, (wrap64 (sq - 1) != f 5), b⟩ : S52)]).length = L.length + 1 := by simp
  have HG6 := Aside0.mk (blk_set HG5.out 7 (.slice A5 (L.length + 1) c5))
  have HX6 := Aside0.mk (blk_far (p := ⟨g, 7, none⟩) HX5.out (show xb ≠ g by have := HLT.out; omega) (.slice A5 (L.length + 1) c5))
  have HR6 := Aside0.mk (Kd.R_far (p := ⟨g, 7, none⟩) HR5.out (fun k hk => hk.1) (.slice A5 (L.length + 1) c5))
  have HB6 : Aside0 (Below base w (w5.setCell ⟨g, 7, none⟩ (.slice A5 (L.length + 1) c5))) := ⟨((HB3.out.mono (Nat.le_trans lo (Nat.le_of_lt HLT.out))).trans HB5.out).setCell lo _⟩
  have HLEN := Aside0.mk hlen
  clear hlen f7
  generalize w5.setCell ⟨g, 7, none⟩ (.slice A5 (L.length + 1) c5) = w6 at *
  have x0 : w6.cell? ⟨xb, 0, none⟩ = some (.int .i64 5) := (blk_cell HX6.out 0).trans rfl
  have x2 : w6.cell? ⟨xb, 2, none⟩ = some (.int .i64 sq) := (blk_cell HX6.out 2).trans rfl
  have c1 : w6.cell? ⟨g, 6, none⟩ = some (.int .i64 (f 5)) := (blk_cell HG6.out 6).trans rfl
  have z1 := blk_frozen HG6.out 6
  go_wp2
  go_region
  all_goals go_wp2
  all_goals
    go_ret
    refine ⟨rfl, ⟨⟨A5, c5, ?_, ?_⟩, lo⟩, (below_drew HB6.out).setCell lo _⟩
    · have : (w6.setCell ⟨g, 6, none⟩ (.int .i64 sq)).drew.heap[g]? = _ := blk_set (w := w6) HG6.out 6 (.int .i64 sq)
      rw [HLEN.out]
      simpa using this
    · exact Kd.R_mono (Kd.R_far (p := ⟨g, 6, none⟩) (Kd.R_drew HR6.out) (fun k hk => hk.1) _) (fun k hk => hk.1)
/-- What a log takes, and what it becomes. -/
def handF (f : Nat → Int) (L : List S52) (fr sq : Int) (b : List Int) : Bool × (Nat → Int) × List S52 :=
  if fr < 0 ∨ 6 ≤ fr ∨ 0 ≤ fr ∧ fr < 6 ∧ sq ≤ f fr.toNat then (false, f, L) else (true, (fun i => if i = fr.toNat then sq else f i), L ++ [⟨fr, sq, (wrap64 (sq - 1) != f fr.toNat), b⟩])
theorem hand_walk (fr tt sq : Int) (A3 : Option Addr) (c3 : Nat) (b : List Int) (w : World) (H : Lg w base g f L) (hC : Kd.C (Kd.int .u8) w A3 b.length b) (hcl : b.length ≤ c3) (hbl : b.length < 140737488355328) (hL : L.length ≤ 1000) :
    Calls Tryd.prog 6 #[.pointer (some ⟨g, 0, none⟩), .agg #[.int .i64 fr, .int .i64 tt, .int .i64 sq, .slice A3 b.length c3]] w fun e w' => e = .returned (.bool (handF f L fr sq b).1) ∧ Lg w' base g (handF f L fr sq b).2.1 (handF f L fr sq b).2.2 ∧ Below base w w' := by
  unfold handF
  by_cases h : fr < 0 ∨ 6 ≤ fr ∨ 0 ≤ fr ∧ fr < 6 ∧ sq ≤ f fr.toNat
  · rw [if_pos h]
    exact hand_no fr tt sq A3 _ c3 w H h
  · rw [if_neg h]
    rcases (show fr = 0 ∨ fr = 1 ∨ fr = 2 ∨ fr = 3 ∨ fr = 4 ∨ fr = 5 by omega) with rfl | rfl | rfl | rfl | rfl | rfl
    · exact hand_yes0 tt sq A3 c3 b w H hC hcl hbl hL (by have := h; simp only [show ((0 : Int)).toNat = 0 from rfl] at this; omega)
    · exact hand_yes1 tt sq A3 c3 b w H hC hcl hbl hL (by have := h; simp only [show ((1 : Int)).toNat = 1 from rfl] at this; omega)
    · exact hand_yes2 tt sq A3 c3 b w H hC hcl hbl hL (by have := h; simp only [show ((2 : Int)).toNat = 2 from rfl] at this; omega)
    · exact hand_yes3 tt sq A3 c3 b w H hC hcl hbl hL (by have := h; simp only [show ((3 : Int)).toNat = 3 from rfl] at this; omega)
    · exact hand_yes4 tt sq A3 c3 b w H hC hcl hbl hL (by have := h; simp only [show ((4 : Int)).toNat = 4 from rfl] at this; omega)
    · exact hand_yes5 tt sq A3 c3 b w H hC hcl hbl hL (by have := h; simp only [show ((5 : Int)).toNat = 5 from rfl] at this; omega)
end Go.Proofs.YtbiofobpafpgfaaDoor.MWo
