/- Texts of this claim, laid together by a program (wip/e/merge2.py): HMy. -/
import Derived.Test.YtaaifdclojkdmaaGreatDoorZFz7
import Derived.Test.YtaaifdclojkdmaaGreatDoorZFz21
import Derived.Test.YtaaifdclojkdmaaGreatDoorZFz22
import Derived.Test.YtaaifdclojkdmaaGreatDoorZFz23
import Derived.Test.YtaaifdclojkdmaaGreatDoorZFz4
set_option linter.unusedVariables false
set_option linter.unusedSimpArgs false
set_option maxRecDepth 100000
namespace Go.Proofs.YtaaifdclojkdmaaGreatDoor.MFr
open Go.RowKit Go.Proofs.YtaaifdclojkdmaaGreatDoorW.PrintWords Go.Proofs.YtaaifdclojkdmaaGreatDoorW.PrintLast Go.Proofs.YtaaifdclojkdmaaGreatDoorW.PrintMore
def idx (n m : Int) : Bool := decide (0 ≤ n ∧ n < m)
def inr (n lo hi : Int) : Bool := decide (lo ≤ n ∧ n ≤ hi)
theorem idx_is (n m : Int) : frame_index.f n m = some (idx n m) := by
 unfold frame_index.f idx
 by_cases h1 : n ≥ 0
 ·rw [if_pos h1]; simp [show 0 ≤ n from h1]
 ·rw [if_neg h1]; simp [show ¬ 0 ≤ n from h1]
theorem inr_is (n lo hi : Int) : frame_within.f n lo hi = some (inr n lo hi) := by
 unfold frame_within.f inr
 by_cases h1 : n ≥ lo
 ·rw [if_pos h1]; simp [show lo ≤ n from h1]
 ·rw [if_neg h1]; simp [show ¬ lo ≤ n from h1]
theorem C_nil_ {α : Type} (d : Kd α) (W : World) : Kd.C d W none 0 [] := (Kd.R_reads' (Kd.R_nil (d := d) 0 W 0 (fun _ => True))).2.2
set_option maxHeartbeats 8000000 in
theorem may1 (kf : Nat) (p n wt mk lk : Int) (fl : Bool) (cy of_ : Int) (A9 : Option Addr) (c9 : Nat) (ag : List Int) (f1 f2 sq : Int) (A13 : Option Addr) (c13 : Nat) (bd : List Int) (s : Bool) (w : World) (h9 : Kd.C (Kd.int .i64) w A9 ag.length ag) (q9 : ag.length ≤ c9) (h13 : Kd.C (Kd.int .u8) w A13 bd.length bd) (q13 : bd.length ≤ c13) (hS : frame_Same.f kf 1 p n wt 0 0 false 0 0 [] 0 0 0 [] 1 p n wt mk lk fl cy of_ ag f1 f2 sq bd = some s) :
  Calls Tryz.prog 21 #[.agg #[.int .i64 1, .int .i64 p, .int .i64 n, .int .i64 wt, .int .i64 mk, .int .i64 lk, .bool fl, .int .i64 cy, .int .i64 of_, .slice A9 ag.length c9, .int .i64 f1, .int .i64 f2, .int .i64 sq, .slice A13 bd.length c13]] w fun e w' => e = .returned (.bool (s && (idx p 6 && (idx n 12 && (idx lk 10 && (inr wt 0 60000)))))) ∧ Below w.heap.size w w' := by
 have H9 := Aside0.mk h9
 have H13 := Aside0.mk h13
 have Q9 := Aside0.mk q9
 have Q13 := Aside0.mk q13
 have HS := Aside0.mk hS
 clear h9 h13 q9 q13 hS
 have Ttp := Aside0.mk (idx_is p 6)
 generalize idx p 6 = tp at *
 have Ttn := Aside0.mk (idx_is n 12)
 generalize idx n 12 = tn at *
 have Ttl := Aside0.mk (idx_is lk 10)
 generalize idx lk 10 = tl at *
 go_enter Tryz.func21, Tryz.ntmps21
 go_wp2_with fail
 refine (bare1 p n wt mk lk fl cy of_ f1 f2 sq A9 ag.length c9 A13 bd.length c13 _).mono ?_
 rintro e w2 ⟨rfl, hb⟩
 have kb := below_alloc (Below.refl w.heap.size w) (.cells #[.int .i64 1, .int .i64 p, .int .i64 n, .int .i64 wt, .int .i64 mk, .int .i64 lk, .bool fl, .int .i64 cy, .int .i64 of_, .slice A9 ag.length c9, .int .i64 f1, .int .i64 f2, .int .i64 sq, .slice A13 bd.length c13] 26)
 have HB2 := Aside0.mk (below_step kb hb)
 have HP2 : Aside0 (w2.heap[w.heap.size]? = some (.cells #[.int .i64 1, .int .i64 p, .int .i64 n, .int .i64 wt, .int .i64 mk, .int .i64 lk, .bool fl, .int .i64 cy, .int .i64 of_, .slice A9 ag.length c9, .int .i64 f1, .int .i64 f2, .int .i64 sq, .slice A13 bd.length c13] 26 (0, 0))) := ⟨(hb.block w.heap.size (blk_lt (heap_alloc_new w _))).trans (heap_alloc_new w _)⟩
 obtain ⟨b1, hb1⟩ : ∃ b1, b1 = w.heap.size := ⟨_, rfl⟩
 rw [← hb1] at HP2
 rw [← hb1]
 have HB1 := Aside0.mk hb1
 clear hb kb hb1
 have x0 : ∀ o : Obj, (w2.alloc o).cell? ⟨b1, 0, none⟩ = some (.int .i64 1) := fun o => (blk_cell ((Below.heap_alloc w2 o b1 (blk_lt HP2.out)).trans HP2.out) 0).trans rfl
 have x1 : ∀ o : Obj, (w2.alloc o).cell? ⟨b1, 1, none⟩ = some (.int .i64 p) := fun o => (blk_cell ((Below.heap_alloc w2 o b1 (blk_lt HP2.out)).trans HP2.out) 1).trans rfl
 have x2 : ∀ o : Obj, (w2.alloc o).cell? ⟨b1, 2, none⟩ = some (.int .i64 n) := fun o => (blk_cell ((Below.heap_alloc w2 o b1 (blk_lt HP2.out)).trans HP2.out) 2).trans rfl
 have x3 : ∀ o : Obj, (w2.alloc o).cell? ⟨b1, 3, none⟩ = some (.int .i64 wt) := fun o => (blk_cell ((Below.heap_alloc w2 o b1 (blk_lt HP2.out)).trans HP2.out) 3).trans rfl
 have x4 : ∀ o : Obj, (w2.alloc o).cell? ⟨b1, 4, none⟩ = some (.int .i64 mk) := fun o => (blk_cell ((Below.heap_alloc w2 o b1 (blk_lt HP2.out)).trans HP2.out) 4).trans rfl
 have x5 : ∀ o : Obj, (w2.alloc o).cell? ⟨b1, 5, none⟩ = some (.int .i64 lk) := fun o => (blk_cell ((Below.heap_alloc w2 o b1 (blk_lt HP2.out)).trans HP2.out) 5).trans rfl
 have x6 : ∀ o : Obj, (w2.alloc o).cell? ⟨b1, 6, none⟩ = some (.bool fl) := fun o => (blk_cell ((Below.heap_alloc w2 o b1 (blk_lt HP2.out)).trans HP2.out) 6).trans rfl
 have x7 : ∀ o : Obj, (w2.alloc o).cell? ⟨b1, 7, none⟩ = some (.int .i64 cy) := fun o => (blk_cell ((Below.heap_alloc w2 o b1 (blk_lt HP2.out)).trans HP2.out) 7).trans rfl
 have x8 : ∀ o : Obj, (w2.alloc o).cell? ⟨b1, 8, none⟩ = some (.int .i64 of_) := fun o => (blk_cell ((Below.heap_alloc w2 o b1 (blk_lt HP2.out)).trans HP2.out) 8).trans rfl
 have x9 : ∀ o : Obj, (w2.alloc o).cell? ⟨b1, 9, none⟩ = some (.slice A9 ag.length c9) := fun o => (blk_cell ((Below.heap_alloc w2 o b1 (blk_lt HP2.out)).trans HP2.out) 9).trans rfl
 have x10 : ∀ o : Obj, (w2.alloc o).cell? ⟨b1, 10, none⟩ = some (.int .i64 f1) := fun o => (blk_cell ((Below.heap_alloc w2 o b1 (blk_lt HP2.out)).trans HP2.out) 10).trans rfl
 have x11 : ∀ o : Obj, (w2.alloc o).cell? ⟨b1, 11, none⟩ = some (.int .i64 f2) := fun o => (blk_cell ((Below.heap_alloc w2 o b1 (blk_lt HP2.out)).trans HP2.out) 11).trans rfl
 have x12 : ∀ o : Obj, (w2.alloc o).cell? ⟨b1, 12, none⟩ = some (.int .i64 sq) := fun o => (blk_cell ((Below.heap_alloc w2 o b1 (blk_lt HP2.out)).trans HP2.out) 12).trans rfl
 have x13 : ∀ o : Obj, (w2.alloc o).cell? ⟨b1, 13, none⟩ = some (.slice A13 bd.length c13) := fun o => (blk_cell ((Below.heap_alloc w2 o b1 (blk_lt HP2.out)).trans HP2.out) 13).trans rfl
 go_wp2_with fail
 refine (frame_Same.calls kf 1 p n wt 0 0 false 0 0 none 0 [] 0 0 0 none 0 [] 1 p n wt mk lk fl cy of_ A9 c9 ag f1 f2 sq A13 c13 bd s _ (C_nil_ (Kd.int .i64) _) (Nat.le_refl 0) (C_nil_ (Kd.int .u8) _) (Nat.le_refl 0) (Kd.C_below H9.out (below_alloc HB2.out _)) Q9.out (Kd.C_below H13.out (below_alloc HB2.out _)) Q13.out HS.out).mono ?_
 rintro e w3 ⟨rfl, hb⟩
 have HB3 := Aside0.mk (below_step (below_alloc HB2.out _) hb)
 have HP3 := Aside0.mk ((hb.block b1 (Nat.lt_of_lt_of_le (blk_lt HP2.out) (below_alloc (Below.refl w2.heap.size w2) _).size)).trans ((Below.heap_alloc w2 _ b1 (blk_lt HP2.out)).trans HP2.out))
 clear hb x0 x1 x2 x3 x4 x5 x6 x7 x8 x9 x10 x11 x12 x13
 obtain ⟨x0, x1, x2, x3, x4, x5, x6, x7, x8, x9, x10, x11, x12, x13⟩ := cellsK14 HP3.out
 clear HS
 cases s with
 | false =>
  go_wp2_with fail
  go_ret
  exact ⟨rfl, by repeat (first | exact HB3.out | apply pw_below_drewN)⟩
 | true =>
  go_wp2_with fail
  refine (frame_index.calls p 6 tp _ Ttp.out).mono ?_
  rintro e wd ⟨rfl, ⟨m0, rfl⟩⟩
  clear Ttp
  cases tp with
  | false =>
   go_wp2_with fail
   go_ret
   exact ⟨rfl, by repeat (first | exact HB3.out | apply pw_below_drewN)⟩
  | true =>
   go_wp2_with fail
   refine (frame_index.calls n 12 tn _ Ttn.out).mono ?_
   rintro e wd ⟨rfl, ⟨m1, rfl⟩⟩
   clear Ttn
   cases tn with
   | false =>
    go_wp2_with fail
    go_ret
    exact ⟨rfl, by repeat (first | exact HB3.out | apply pw_below_drewN)⟩
   | true =>
    go_wp2_with fail
    refine (frame_index.calls lk 10 tl _ Ttl.out).mono ?_
    rintro e wd ⟨rfl, ⟨m2, rfl⟩⟩
    clear Ttl
    cases tl with
    | false =>
     go_wp2_with fail
     go_ret
     exact ⟨rfl, by repeat (first | exact HB3.out | apply pw_below_drewN)⟩
    | true =>
     by_cases hw0 : 0 ≤ wt
     ·have d1 : decide (0 ≤ wt) = true := decide_eq_true hw0
      have HV : Aside0 (inr wt 0 60000 = decide (wt ≤ 60000)) := ⟨by unfold inr; simp [hw0]⟩
      clear hw0
      go_wp2_with fail
      go_ret
      rw [HV.out]
      exact ⟨rfl, by repeat (first | exact HB3.out | apply pw_below_drewN)⟩
     ·have d1 : decide (0 ≤ wt) = false := decide_eq_false hw0
      have HV : Aside0 (inr wt 0 60000 = false) := ⟨by unfold inr; simp [hw0]⟩
      clear hw0
      go_wp2_with fail
      go_ret
      rw [HV.out]
      exact ⟨rfl, by repeat (first | exact HB3.out | apply pw_below_drewN)⟩
set_option maxHeartbeats 8000000 in
theorem may2 (kf : Nat) (p n wt mk lk : Int) (fl : Bool) (cy of_ : Int) (A9 : Option Addr) (c9 : Nat) (ag : List Int) (f1 f2 sq : Int) (A13 : Option Addr) (c13 : Nat) (bd : List Int) (s : Bool) (w : World) (h9 : Kd.C (Kd.int .i64) w A9 ag.length ag) (q9 : ag.length ≤ c9) (h13 : Kd.C (Kd.int .u8) w A13 bd.length bd) (q13 : bd.length ≤ c13) (hS : frame_Same.f kf 2 p n 0 mk 0 false cy 0 ag 0 0 0 [] 2 p n wt mk lk fl cy of_ ag f1 f2 sq bd = some s) :
  Calls Tryz.prog 21 #[.agg #[.int .i64 2, .int .i64 p, .int .i64 n, .int .i64 wt, .int .i64 mk, .int .i64 lk, .bool fl, .int .i64 cy, .int .i64 of_, .slice A9 ag.length c9, .int .i64 f1, .int .i64 f2, .int .i64 sq, .slice A13 bd.length c13]] w fun e w' => e = .returned (.bool (s && (idx p 6 && (idx n 12 && (idx lk 10 && (idx mk 4096 && (inr cy 0 1099511627776 && (agesOk ag)))))))) ∧ Below w.heap.size w w' := by
 have H9 := Aside0.mk h9
 have H13 := Aside0.mk h13
 have Q9 := Aside0.mk q9
 have Q13 := Aside0.mk q13
 have HS := Aside0.mk hS
 clear h9 h13 q9 q13 hS
 have Ttp := Aside0.mk (idx_is p 6)
 generalize idx p 6 = tp at *
 have Ttn := Aside0.mk (idx_is n 12)
 generalize idx n 12 = tn at *
 have Ttl := Aside0.mk (idx_is lk 10)
 generalize idx lk 10 = tl at *
 have Ttm := Aside0.mk (idx_is mk 4096)
 generalize idx mk 4096 = tm at *
 have Ttc := Aside0.mk (inr_is cy 0 1099511627776)
 generalize inr cy 0 1099511627776 = tc at *
 have HAG := Aside0.mk (fun (W : World) (hW : Below w.heap.size w W) => fages_walk A9 c9 ag W (Kd.C_below H9.out hW))
 generalize agesOk ag = ta_ at *
 go_enter Tryz.func21, Tryz.ntmps21
 go_wp2_with fail
 refine (bare2 p n wt mk lk fl cy of_ f1 f2 sq A9 ag.length c9 A13 bd.length c13 _).mono ?_
 rintro e w2 ⟨rfl, hb⟩
 have kb := below_alloc (Below.refl w.heap.size w) (.cells #[.int .i64 2, .int .i64 p, .int .i64 n, .int .i64 wt, .int .i64 mk, .int .i64 lk, .bool fl, .int .i64 cy, .int .i64 of_, .slice A9 ag.length c9, .int .i64 f1, .int .i64 f2, .int .i64 sq, .slice A13 bd.length c13] 26)
 have HB2 := Aside0.mk (below_step kb hb)
 have HP2 : Aside0 (w2.heap[w.heap.size]? = some (.cells #[.int .i64 2, .int .i64 p, .int .i64 n, .int .i64 wt, .int .i64 mk, .int .i64 lk, .bool fl, .int .i64 cy, .int .i64 of_, .slice A9 ag.length c9, .int .i64 f1, .int .i64 f2, .int .i64 sq, .slice A13 bd.length c13] 26 (0, 0))) := ⟨(hb.block w.heap.size (blk_lt (heap_alloc_new w _))).trans (heap_alloc_new w _)⟩
 obtain ⟨b1, hb1⟩ : ∃ b1, b1 = w.heap.size := ⟨_, rfl⟩
 rw [← hb1] at HP2
 rw [← hb1]
 have HB1 := Aside0.mk hb1
 clear hb kb hb1
 have x0 : ∀ o : Obj, (w2.alloc o).cell? ⟨b1, 0, none⟩ = some (.int .i64 2) := fun o => (blk_cell ((Below.heap_alloc w2 o b1 (blk_lt HP2.out)).trans HP2.out) 0).trans rfl
 have x1 : ∀ o : Obj, (w2.alloc o).cell? ⟨b1, 1, none⟩ = some (.int .i64 p) := fun o => (blk_cell ((Below.heap_alloc w2 o b1 (blk_lt HP2.out)).trans HP2.out) 1).trans rfl
 have x2 : ∀ o : Obj, (w2.alloc o).cell? ⟨b1, 2, none⟩ = some (.int .i64 n) := fun o => (blk_cell ((Below.heap_alloc w2 o b1 (blk_lt HP2.out)).trans HP2.out) 2).trans rfl
 have x3 : ∀ o : Obj, (w2.alloc o).cell? ⟨b1, 3, none⟩ = some (.int .i64 wt) := fun o => (blk_cell ((Below.heap_alloc w2 o b1 (blk_lt HP2.out)).trans HP2.out) 3).trans rfl
 have x4 : ∀ o : Obj, (w2.alloc o).cell? ⟨b1, 4, none⟩ = some (.int .i64 mk) := fun o => (blk_cell ((Below.heap_alloc w2 o b1 (blk_lt HP2.out)).trans HP2.out) 4).trans rfl
 have x5 : ∀ o : Obj, (w2.alloc o).cell? ⟨b1, 5, none⟩ = some (.int .i64 lk) := fun o => (blk_cell ((Below.heap_alloc w2 o b1 (blk_lt HP2.out)).trans HP2.out) 5).trans rfl
 have x6 : ∀ o : Obj, (w2.alloc o).cell? ⟨b1, 6, none⟩ = some (.bool fl) := fun o => (blk_cell ((Below.heap_alloc w2 o b1 (blk_lt HP2.out)).trans HP2.out) 6).trans rfl
 have x7 : ∀ o : Obj, (w2.alloc o).cell? ⟨b1, 7, none⟩ = some (.int .i64 cy) := fun o => (blk_cell ((Below.heap_alloc w2 o b1 (blk_lt HP2.out)).trans HP2.out) 7).trans rfl
 have x8 : ∀ o : Obj, (w2.alloc o).cell? ⟨b1, 8, none⟩ = some (.int .i64 of_) := fun o => (blk_cell ((Below.heap_alloc w2 o b1 (blk_lt HP2.out)).trans HP2.out) 8).trans rfl
 have x9 : ∀ o : Obj, (w2.alloc o).cell? ⟨b1, 9, none⟩ = some (.slice A9 ag.length c9) := fun o => (blk_cell ((Below.heap_alloc w2 o b1 (blk_lt HP2.out)).trans HP2.out) 9).trans rfl
 have x10 : ∀ o : Obj, (w2.alloc o).cell? ⟨b1, 10, none⟩ = some (.int .i64 f1) := fun o => (blk_cell ((Below.heap_alloc w2 o b1 (blk_lt HP2.out)).trans HP2.out) 10).trans rfl
 have x11 : ∀ o : Obj, (w2.alloc o).cell? ⟨b1, 11, none⟩ = some (.int .i64 f2) := fun o => (blk_cell ((Below.heap_alloc w2 o b1 (blk_lt HP2.out)).trans HP2.out) 11).trans rfl
 have x12 : ∀ o : Obj, (w2.alloc o).cell? ⟨b1, 12, none⟩ = some (.int .i64 sq) := fun o => (blk_cell ((Below.heap_alloc w2 o b1 (blk_lt HP2.out)).trans HP2.out) 12).trans rfl
 have x13 : ∀ o : Obj, (w2.alloc o).cell? ⟨b1, 13, none⟩ = some (.slice A13 bd.length c13) := fun o => (blk_cell ((Below.heap_alloc w2 o b1 (blk_lt HP2.out)).trans HP2.out) 13).trans rfl
 go_wp2_with fail
 refine (frame_Same.calls kf 2 p n 0 mk 0 false cy 0 A9 c9 ag 0 0 0 none 0 [] 2 p n wt mk lk fl cy of_ A9 c9 ag f1 f2 sq A13 c13 bd s _ (Kd.C_below H9.out (below_alloc HB2.out _)) Q9.out (C_nil_ (Kd.int .u8) _) (Nat.le_refl 0) (Kd.C_below H9.out (below_alloc HB2.out _)) Q9.out (Kd.C_below H13.out (below_alloc HB2.out _)) Q13.out HS.out).mono ?_
 rintro e w3 ⟨rfl, hb⟩
 have HB3 := Aside0.mk (below_step (below_alloc HB2.out _) hb)
 have HP3 := Aside0.mk ((hb.block b1 (Nat.lt_of_lt_of_le (blk_lt HP2.out) (below_alloc (Below.refl w2.heap.size w2) _).size)).trans ((Below.heap_alloc w2 _ b1 (blk_lt HP2.out)).trans HP2.out))
 clear hb x0 x1 x2 x3 x4 x5 x6 x7 x8 x9 x10 x11 x12 x13
 obtain ⟨x0, x1, x2, x3, x4, x5, x6, x7, x8, x9, x10, x11, x12, x13⟩ := cellsK14 HP3.out
 clear HS
 cases s with
 | false =>
  go_wp2_with fail
  go_ret
  exact ⟨rfl, by repeat (first | exact HB3.out | apply pw_below_drewN)⟩
 | true =>
  go_wp2_with fail
  refine (frame_index.calls p 6 tp _ Ttp.out).mono ?_
  rintro e wd ⟨rfl, ⟨m0, rfl⟩⟩
  clear Ttp
  cases tp with
  | false =>
   go_wp2_with fail
   go_ret
   exact ⟨rfl, by repeat (first | exact HB3.out | apply pw_below_drewN)⟩
  | true =>
   go_wp2_with fail
   refine (frame_index.calls n 12 tn _ Ttn.out).mono ?_
   rintro e wd ⟨rfl, ⟨m1, rfl⟩⟩
   clear Ttn
   cases tn with
   | false =>
    go_wp2_with fail
    go_ret
    exact ⟨rfl, by repeat (first | exact HB3.out | apply pw_below_drewN)⟩
   | true =>
    go_wp2_with fail
    refine (frame_index.calls lk 10 tl _ Ttl.out).mono ?_
    rintro e wd ⟨rfl, ⟨m2, rfl⟩⟩
    clear Ttl
    cases tl with
    | false =>
     go_wp2_with fail
     go_ret
     exact ⟨rfl, by repeat (first | exact HB3.out | apply pw_below_drewN)⟩
    | true =>
     go_wp2_with fail
     refine (frame_index.calls mk 4096 tm _ Ttm.out).mono ?_
     rintro e wd ⟨rfl, ⟨m3, rfl⟩⟩
     clear Ttm
     cases tm with
     | false =>
      go_wp2_with fail
      go_ret
      exact ⟨rfl, by repeat (first | exact HB3.out | apply pw_below_drewN)⟩
     | true =>
      go_wp2_with fail
      refine (frame_within.calls cy 0 1099511627776 tc _ Ttc.out).mono ?_
      rintro e wd ⟨rfl, ⟨m4, rfl⟩⟩
      clear Ttc
      cases tc with
      | false =>
       go_wp2_with fail
       go_ret
       exact ⟨rfl, by repeat (first | exact HB3.out | apply pw_below_drewN)⟩
      | true =>
       go_wp2_with fail
       refine (HAG.out _ (by repeat (first | exact HB3.out | apply pw_below_drewN))).mono ?_
       rintro e w5 ⟨rfl, hb⟩
       have HB5 := Aside0.mk (below_step (by repeat (first | exact HB3.out | apply pw_below_drewN)) hb)
       clear hb
       go_wp2_with fail
       go_ret
       exact ⟨rfl, by repeat (first | exact HB5.out | apply pw_below_drewN)⟩
set_option maxHeartbeats 8000000 in
theorem may3 (kf : Nat) (p n wt mk lk : Int) (fl : Bool) (cy of_ : Int) (A9 : Option Addr) (c9 : Nat) (ag : List Int) (f1 f2 sq : Int) (A13 : Option Addr) (c13 : Nat) (bd : List Int) (s : Bool) (w : World) (h9 : Kd.C (Kd.int .i64) w A9 ag.length ag) (q9 : ag.length ≤ c9) (h13 : Kd.C (Kd.int .u8) w A13 bd.length bd) (q13 : bd.length ≤ c13) (hS : frame_Same.f kf 3 p n 0 0 lk fl cy of_ [] 0 0 0 [] 3 p n wt mk lk fl cy of_ ag f1 f2 sq bd = some s) :
  Calls Tryz.prog 21 #[.agg #[.int .i64 3, .int .i64 p, .int .i64 n, .int .i64 wt, .int .i64 mk, .int .i64 lk, .bool fl, .int .i64 cy, .int .i64 of_, .slice A9 ag.length c9, .int .i64 f1, .int .i64 f2, .int .i64 sq, .slice A13 bd.length c13]] w fun e w' => e = .returned (.bool (s && (idx p 6 && (idx n 12 && (idx lk 10 && (inr cy 0 1099511627776 && (inr of_ (-1099511627776) 1099511627776))))))) ∧ Below w.heap.size w w' := by
 have H9 := Aside0.mk h9
 have H13 := Aside0.mk h13
 have Q9 := Aside0.mk q9
 have Q13 := Aside0.mk q13
 have HS := Aside0.mk hS
 clear h9 h13 q9 q13 hS
 have Ttp := Aside0.mk (idx_is p 6)
 generalize idx p 6 = tp at *
 have Ttn := Aside0.mk (idx_is n 12)
 generalize idx n 12 = tn at *
 have Ttl := Aside0.mk (idx_is lk 10)
 generalize idx lk 10 = tl at *
 have Ttc := Aside0.mk (inr_is cy 0 1099511627776)
 generalize inr cy 0 1099511627776 = tc at *
 have Tto_ := Aside0.mk (inr_is of_ (-1099511627776) 1099511627776)
 generalize inr of_ (-1099511627776) 1099511627776 = to_ at *
 go_enter Tryz.func21, Tryz.ntmps21
 go_wp2_with fail
 refine (bare3 p n wt mk lk fl cy of_ f1 f2 sq A9 ag.length c9 A13 bd.length c13 _).mono ?_
 rintro e w2 ⟨rfl, hb⟩
 have kb := below_alloc (Below.refl w.heap.size w) (.cells #[.int .i64 3, .int .i64 p, .int .i64 n, .int .i64 wt, .int .i64 mk, .int .i64 lk, .bool fl, .int .i64 cy, .int .i64 of_, .slice A9 ag.length c9, .int .i64 f1, .int .i64 f2, .int .i64 sq, .slice A13 bd.length c13] 26)
 have HB2 := Aside0.mk (below_step kb hb)
 have HP2 : Aside0 (w2.heap[w.heap.size]? = some (.cells #[.int .i64 3, .int .i64 p, .int .i64 n, .int .i64 wt, .int .i64 mk, .int .i64 lk, .bool fl, .int .i64 cy, .int .i64 of_, .slice A9 ag.length c9, .int .i64 f1, .int .i64 f2, .int .i64 sq, .slice A13 bd.length c13] 26 (0, 0))) := ⟨(hb.block w.heap.size (blk_lt (heap_alloc_new w _))).trans (heap_alloc_new w _)⟩
 obtain ⟨b1, hb1⟩ : ∃ b1, b1 = w.heap.size := ⟨_, rfl⟩
 rw [← hb1] at HP2
 rw [← hb1]
 have HB1 := Aside0.mk hb1
 clear hb kb hb1
 have x0 : ∀ o : Obj, (w2.alloc o).cell? ⟨b1, 0, none⟩ = some (.int .i64 3) := fun o => (blk_cell ((Below.heap_alloc w2 o b1 (blk_lt HP2.out)).trans HP2.out) 0).trans rfl
 have x1 : ∀ o : Obj, (w2.alloc o).cell? ⟨b1, 1, none⟩ = some (.int .i64 p) := fun o => (blk_cell ((Below.heap_alloc w2 o b1 (blk_lt HP2.out)).trans HP2.out) 1).trans rfl
 have x2 : ∀ o : Obj, (w2.alloc o).cell? ⟨b1, 2, none⟩ = some (.int .i64 n) := fun o => (blk_cell ((Below.heap_alloc w2 o b1 (blk_lt HP2.out)).trans HP2.out) 2).trans rfl
 have x3 : ∀ o : Obj, (w2.alloc o).cell? ⟨b1, 3, none⟩ = some (.int .i64 wt) := fun o => (blk_cell ((Below.heap_alloc w2 o b1 (blk_lt HP2.out)).trans HP2.out) 3).trans rfl
 have x4 : ∀ o : Obj, (w2.alloc o).cell? ⟨b1, 4, none⟩ = some (.int .i64 mk) := fun o => (blk_cell ((Below.heap_alloc w2 o b1 (blk_lt HP2.out)).trans HP2.out) 4).trans rfl
 have x5 : ∀ o : Obj, (w2.alloc o).cell? ⟨b1, 5, none⟩ = some (.int .i64 lk) := fun o => (blk_cell ((Below.heap_alloc w2 o b1 (blk_lt HP2.out)).trans HP2.out) 5).trans rfl
 have x6 : ∀ o : Obj, (w2.alloc o).cell? ⟨b1, 6, none⟩ = some (.bool fl) := fun o => (blk_cell ((Below.heap_alloc w2 o b1 (blk_lt HP2.out)).trans HP2.out) 6).trans rfl
 have x7 : ∀ o : Obj, (w2.alloc o).cell? ⟨b1, 7, none⟩ = some (.int .i64 cy) := fun o => (blk_cell ((Below.heap_alloc w2 o b1 (blk_lt HP2.out)).trans HP2.out) 7).trans rfl
 have x8 : ∀ o : Obj, (w2.alloc o).cell? ⟨b1, 8, none⟩ = some (.int .i64 of_) := fun o => (blk_cell ((Below.heap_alloc w2 o b1 (blk_lt HP2.out)).trans HP2.out) 8).trans rfl
 have x9 : ∀ o : Obj, (w2.alloc o).cell? ⟨b1, 9, none⟩ = some (.slice A9 ag.length c9) := fun o => (blk_cell ((Below.heap_alloc w2 o b1 (blk_lt HP2.out)).trans HP2.out) 9).trans rfl
 have x10 : ∀ o : Obj, (w2.alloc o).cell? ⟨b1, 10, none⟩ = some (.int .i64 f1) := fun o => (blk_cell ((Below.heap_alloc w2 o b1 (blk_lt HP2.out)).trans HP2.out) 10).trans rfl
 have x11 : ∀ o : Obj, (w2.alloc o).cell? ⟨b1, 11, none⟩ = some (.int .i64 f2) := fun o => (blk_cell ((Below.heap_alloc w2 o b1 (blk_lt HP2.out)).trans HP2.out) 11).trans rfl
 have x12 : ∀ o : Obj, (w2.alloc o).cell? ⟨b1, 12, none⟩ = some (.int .i64 sq) := fun o => (blk_cell ((Below.heap_alloc w2 o b1 (blk_lt HP2.out)).trans HP2.out) 12).trans rfl
 have x13 : ∀ o : Obj, (w2.alloc o).cell? ⟨b1, 13, none⟩ = some (.slice A13 bd.length c13) := fun o => (blk_cell ((Below.heap_alloc w2 o b1 (blk_lt HP2.out)).trans HP2.out) 13).trans rfl
 go_wp2_with fail
 refine (frame_Same.calls kf 3 p n 0 0 lk fl cy of_ none 0 [] 0 0 0 none 0 [] 3 p n wt mk lk fl cy of_ A9 c9 ag f1 f2 sq A13 c13 bd s _ (C_nil_ (Kd.int .i64) _) (Nat.le_refl 0) (C_nil_ (Kd.int .u8) _) (Nat.le_refl 0) (Kd.C_below H9.out (below_alloc HB2.out _)) Q9.out (Kd.C_below H13.out (below_alloc HB2.out _)) Q13.out HS.out).mono ?_
 rintro e w3 ⟨rfl, hb⟩
 have HB3 := Aside0.mk (below_step (below_alloc HB2.out _) hb)
 have HP3 := Aside0.mk ((hb.block b1 (Nat.lt_of_lt_of_le (blk_lt HP2.out) (below_alloc (Below.refl w2.heap.size w2) _).size)).trans ((Below.heap_alloc w2 _ b1 (blk_lt HP2.out)).trans HP2.out))
 clear hb x0 x1 x2 x3 x4 x5 x6 x7 x8 x9 x10 x11 x12 x13
 obtain ⟨x0, x1, x2, x3, x4, x5, x6, x7, x8, x9, x10, x11, x12, x13⟩ := cellsK14 HP3.out
 clear HS
 cases s with
 | false =>
  go_wp2_with fail
  go_ret
  exact ⟨rfl, by repeat (first | exact HB3.out | apply pw_below_drewN)⟩
 | true =>
  go_wp2_with fail
  refine (frame_index.calls p 6 tp _ Ttp.out).mono ?_
  rintro e wd ⟨rfl, ⟨m0, rfl⟩⟩
  clear Ttp
  cases tp with
  | false =>
   go_wp2_with fail
   go_ret
   exact ⟨rfl, by repeat (first | exact HB3.out | apply pw_below_drewN)⟩
  | true =>
   go_wp2_with fail
   refine (frame_index.calls n 12 tn _ Ttn.out).mono ?_
   rintro e wd ⟨rfl, ⟨m1, rfl⟩⟩
   clear Ttn
   cases tn with
   | false =>
    go_wp2_with fail
    go_ret
    exact ⟨rfl, by repeat (first | exact HB3.out | apply pw_below_drewN)⟩
   | true =>
    go_wp2_with fail
    refine (frame_index.calls lk 10 tl _ Ttl.out).mono ?_
    rintro e wd ⟨rfl, ⟨m2, rfl⟩⟩
    clear Ttl
    cases tl with
    | false =>
     go_wp2_with fail
     go_ret
     exact ⟨rfl, by repeat (first | exact HB3.out | apply pw_below_drewN)⟩
    | true =>
     go_wp2_with fail
     refine (frame_within.calls cy 0 1099511627776 tc _ Ttc.out).mono ?_
     rintro e wd ⟨rfl, ⟨m3, rfl⟩⟩
     clear Ttc
     cases tc with
     | false =>
      go_wp2_with fail
      go_ret
      exact ⟨rfl, by repeat (first | exact HB3.out | apply pw_below_drewN)⟩
     | true =>
      go_wp2_with fail
      refine (frame_within.calls of_ (-1099511627776) 1099511627776 to_ _ Tto_.out).mono ?_
      rintro e wd ⟨rfl, ⟨m4, rfl⟩⟩
      go_wp2_with fail
      go_ret
      exact ⟨rfl, by repeat (first | exact HB3.out | apply pw_below_drewN)⟩
set_option maxHeartbeats 8000000 in
theorem may4 (kf : Nat) (p n wt mk lk : Int) (fl : Bool) (cy of_ : Int) (A9 : Option Addr) (c9 : Nat) (ag : List Int) (f1 f2 sq : Int) (A13 : Option Addr) (c13 : Nat) (bd : List Int) (s : Bool) (w : World) (h9 : Kd.C (Kd.int .i64) w A9 ag.length ag) (q9 : ag.length ≤ c9) (h13 : Kd.C (Kd.int .u8) w A13 bd.length bd) (q13 : bd.length ≤ c13) (hS : frame_Same.f kf 4 p n 0 0 lk false 0 0 ag 0 0 0 [] 4 p n wt mk lk fl cy of_ ag f1 f2 sq bd = some s) :
  Calls Tryz.prog 21 #[.agg #[.int .i64 4, .int .i64 p, .int .i64 n, .int .i64 wt, .int .i64 mk, .int .i64 lk, .bool fl, .int .i64 cy, .int .i64 of_, .slice A9 ag.length c9, .int .i64 f1, .int .i64 f2, .int .i64 sq, .slice A13 bd.length c13]] w fun e w' => e = .returned (.bool (s && (idx p 6 && (idx n 12 && (idx lk 10 && (agesOk ag)))))) ∧ Below w.heap.size w w' := by
 have H9 := Aside0.mk h9
 have H13 := Aside0.mk h13
 have Q9 := Aside0.mk q9
 have Q13 := Aside0.mk q13
 have HS := Aside0.mk hS
 clear h9 h13 q9 q13 hS
 have Ttp := Aside0.mk (idx_is p 6)
 generalize idx p 6 = tp at *
 have Ttn := Aside0.mk (idx_is n 12)
 generalize idx n 12 = tn at *
 have Ttl := Aside0.mk (idx_is lk 10)
 generalize idx lk 10 = tl at *
 have HAG := Aside0.mk (fun (W : World) (hW : Below w.heap.size w W) => fages_walk A9 c9 ag W (Kd.C_below H9.out hW))
 generalize agesOk ag = ta_ at *
 go_enter Tryz.func21, Tryz.ntmps21
 go_wp2_with fail
 refine (bare4 p n wt mk lk fl cy of_ f1 f2 sq A9 ag.length c9 A13 bd.length c13 _).mono ?_
 rintro e w2 ⟨rfl, hb⟩
 have kb := below_alloc (Below.refl w.heap.size w) (.cells #[.int .i64 4, .int .i64 p, .int .i64 n, .int .i64 wt, .int .i64 mk, .int .i64 lk, .bool fl, .int .i64 cy, .int .i64 of_, .slice A9 ag.length c9, .int .i64 f1, .int .i64 f2, .int .i64 sq, .slice A13 bd.length c13] 26)
 have HB2 := Aside0.mk (below_step kb hb)
 have HP2 : Aside0 (w2.heap[w.heap.size]? = some (.cells #[.int .i64 4, .int .i64 p, .int .i64 n, .int .i64 wt, .int .i64 mk, .int .i64 lk, .bool fl, .int .i64 cy, .int .i64 of_, .slice A9 ag.length c9, .int .i64 f1, .int .i64 f2, .int .i64 sq, .slice A13 bd.length c13] 26 (0, 0))) := ⟨(hb.block w.heap.size (blk_lt (heap_alloc_new w _))).trans (heap_alloc_new w _)⟩
 obtain ⟨b1, hb1⟩ : ∃ b1, b1 = w.heap.size := ⟨_, rfl⟩
 rw [← hb1] at HP2
 rw [← hb1]
 have HB1 := Aside0.mk hb1
 clear hb kb hb1
 have x0 : ∀ o : Obj, (w2.alloc o).cell? ⟨b1, 0, none⟩ = some (.int .i64 4) := fun o => (blk_cell ((Below.heap_alloc w2 o b1 (blk_lt HP2.out)).trans HP2.out) 0).trans rfl
 have x1 : ∀ o : Obj, (w2.alloc o).cell? ⟨b1, 1, none⟩ = some (.int .i64 p) := fun o => (blk_cell ((Below.heap_alloc w2 o b1 (blk_lt HP2.out)).trans HP2.out) 1).trans rfl
 have x2 : ∀ o : Obj, (w2.alloc o).cell? ⟨b1, 2, none⟩ = some (.int .i64 n) := fun o => (blk_cell ((Below.heap_alloc w2 o b1 (blk_lt HP2.out)).trans HP2.out) 2).trans rfl
 have x3 : ∀ o : Obj, (w2.alloc o).cell? ⟨b1, 3, none⟩ = some (.int .i64 wt) := fun o => (blk_cell ((Below.heap_alloc w2 o b1 (blk_lt HP2.out)).trans HP2.out) 3).trans rfl
 have x4 : ∀ o : Obj, (w2.alloc o).cell? ⟨b1, 4, none⟩ = some (.int .i64 mk) := fun o => (blk_cell ((Below.heap_alloc w2 o b1 (blk_lt HP2.out)).trans HP2.out) 4).trans rfl
 have x5 : ∀ o : Obj, (w2.alloc o).cell? ⟨b1, 5, none⟩ = some (.int .i64 lk) := fun o => (blk_cell ((Below.heap_alloc w2 o b1 (blk_lt HP2.out)).trans HP2.out) 5).trans rfl
 have x6 : ∀ o : Obj, (w2.alloc o).cell? ⟨b1, 6, none⟩ = some (.bool fl) := fun o => (blk_cell ((Below.heap_alloc w2 o b1 (blk_lt HP2.out)).trans HP2.out) 6).trans rfl
 have x7 : ∀ o : Obj, (w2.alloc o).cell? ⟨b1, 7, none⟩ = some (.int .i64 cy) := fun o => (blk_cell ((Below.heap_alloc w2 o b1 (blk_lt HP2.out)).trans HP2.out) 7).trans rfl
 have x8 : ∀ o : Obj, (w2.alloc o).cell? ⟨b1, 8, none⟩ = some (.int .i64 of_) := fun o => (blk_cell ((Below.heap_alloc w2 o b1 (blk_lt HP2.out)).trans HP2.out) 8).trans rfl
 have x9 : ∀ o : Obj, (w2.alloc o).cell? ⟨b1, 9, none⟩ = some (.slice A9 ag.length c9) := fun o => (blk_cell ((Below.heap_alloc w2 o b1 (blk_lt HP2.out)).trans HP2.out) 9).trans rfl
 have x10 : ∀ o : Obj, (w2.alloc o).cell? ⟨b1, 10, none⟩ = some (.int .i64 f1) := fun o => (blk_cell ((Below.heap_alloc w2 o b1 (blk_lt HP2.out)).trans HP2.out) 10).trans rfl
 have x11 : ∀ o : Obj, (w2.alloc o).cell? ⟨b1, 11, none⟩ = some (.int .i64 f2) := fun o => (blk_cell ((Below.heap_alloc w2 o b1 (blk_lt HP2.out)).trans HP2.out) 11).trans rfl
 have x12 : ∀ o : Obj, (w2.alloc o).cell? ⟨b1, 12, none⟩ = some (.int .i64 sq) := fun o => (blk_cell ((Below.heap_alloc w2 o b1 (blk_lt HP2.out)).trans HP2.out) 12).trans rfl
 have x13 : ∀ o : Obj, (w2.alloc o).cell? ⟨b1, 13, none⟩ = some (.slice A13 bd.length c13) := fun o => (blk_cell ((Below.heap_alloc w2 o b1 (blk_lt HP2.out)).trans HP2.out) 13).trans rfl
 go_wp2_with fail
 refine (frame_Same.calls kf 4 p n 0 0 lk false 0 0 A9 c9 ag 0 0 0 none 0 [] 4 p n wt mk lk fl cy of_ A9 c9 ag f1 f2 sq A13 c13 bd s _ (Kd.C_below H9.out (below_alloc HB2.out _)) Q9.out (C_nil_ (Kd.int .u8) _) (Nat.le_refl 0) (Kd.C_below H9.out (below_alloc HB2.out _)) Q9.out (Kd.C_below H13.out (below_alloc HB2.out _)) Q13.out HS.out).mono ?_
 rintro e w3 ⟨rfl, hb⟩
 have HB3 := Aside0.mk (below_step (below_alloc HB2.out _) hb)
 have HP3 := Aside0.mk ((hb.block b1 (Nat.lt_of_lt_of_le (blk_lt HP2.out) (below_alloc (Below.refl w2.heap.size w2) _).size)).trans ((Below.heap_alloc w2 _ b1 (blk_lt HP2.out)).trans HP2.out))
 clear hb x0 x1 x2 x3 x4 x5 x6 x7 x8 x9 x10 x11 x12 x13
 obtain ⟨x0, x1, x2, x3, x4, x5, x6, x7, x8, x9, x10, x11, x12, x13⟩ := cellsK14 HP3.out
 clear HS
 cases s with
 | false =>
  go_wp2_with fail
  go_ret
  exact ⟨rfl, by repeat (first | exact HB3.out | apply pw_below_drewN)⟩
 | true =>
  go_wp2_with fail
  refine (frame_index.calls p 6 tp _ Ttp.out).mono ?_
  rintro e wd ⟨rfl, ⟨m0, rfl⟩⟩
  clear Ttp
  cases tp with
  | false =>
   go_wp2_with fail
   go_ret
   exact ⟨rfl, by repeat (first | exact HB3.out | apply pw_below_drewN)⟩
  | true =>
   go_wp2_with fail
   refine (frame_index.calls n 12 tn _ Ttn.out).mono ?_
   rintro e wd ⟨rfl, ⟨m1, rfl⟩⟩
   clear Ttn
   cases tn with
   | false =>
    go_wp2_with fail
    go_ret
    exact ⟨rfl, by repeat (first | exact HB3.out | apply pw_below_drewN)⟩
   | true =>
    go_wp2_with fail
    refine (frame_index.calls lk 10 tl _ Ttl.out).mono ?_
    rintro e wd ⟨rfl, ⟨m2, rfl⟩⟩
    clear Ttl
    cases tl with
    | false =>
     go_wp2_with fail
     go_ret
     exact ⟨rfl, by repeat (first | exact HB3.out | apply pw_below_drewN)⟩
    | true =>
     go_wp2_with fail
     refine (HAG.out _ (by repeat (first | exact HB3.out | apply pw_below_drewN))).mono ?_
     rintro e w5 ⟨rfl, hb⟩
     have HB5 := Aside0.mk (below_step (by repeat (first | exact HB3.out | apply pw_below_drewN)) hb)
     clear hb
     go_wp2_with fail
     go_ret
     exact ⟨rfl, by repeat (first | exact HB5.out | apply pw_below_drewN)⟩
set_option maxHeartbeats 8000000 in
theorem may5 (kf : Nat) (p n wt mk lk : Int) (fl : Bool) (cy of_ : Int) (A9 : Option Addr) (c9 : Nat) (ag : List Int) (f1 f2 sq : Int) (A13 : Option Addr) (c13 : Nat) (bd : List Int) (s : Bool) (w : World) (h9 : Kd.C (Kd.int .i64) w A9 ag.length ag) (q9 : ag.length ≤ c9) (h13 : Kd.C (Kd.int .u8) w A13 bd.length bd) (q13 : bd.length ≤ c13) (hS : frame_Same.f kf 5 p n 0 0 lk false 0 0 [] f1 f2 sq bd 5 p n wt mk lk fl cy of_ ag f1 f2 sq bd = some s) :
  Calls Tryz.prog 21 #[.agg #[.int .i64 5, .int .i64 p, .int .i64 n, .int .i64 wt, .int .i64 mk, .int .i64 lk, .bool fl, .int .i64 cy, .int .i64 of_, .slice A9 ag.length c9, .int .i64 f1, .int .i64 f2, .int .i64 sq, .slice A13 bd.length c13]] w fun e w' => e = .returned (.bool (s && (idx p 6 && (idx n 12 && (idx lk 10 && (idx f1 6 && (idx f2 6 && (inr sq 1 2147483648 && (decide ((bd.length : Int) ≤ 24)))))))))) ∧ Below w.heap.size w w' := by
 have H9 := Aside0.mk h9
 have H13 := Aside0.mk h13
 have Q9 := Aside0.mk q9
 have Q13 := Aside0.mk q13
 have HS := Aside0.mk hS
 clear h9 h13 q9 q13 hS
 have Ttp := Aside0.mk (idx_is p 6)
 generalize idx p 6 = tp at *
 have Ttn := Aside0.mk (idx_is n 12)
 generalize idx n 12 = tn at *
 have Ttl := Aside0.mk (idx_is lk 10)
 generalize idx lk 10 = tl at *
 have Tta := Aside0.mk (idx_is f1 6)
 generalize idx f1 6 = ta at *
 have Ttb := Aside0.mk (idx_is f2 6)
 generalize idx f2 6 = tb at *
 have Tts := Aside0.mk (inr_is sq 1 2147483648)
 generalize inr sq 1 2147483648 = ts at *
 go_enter Tryz.func21, Tryz.ntmps21
 go_wp2_with fail
 refine (bare5 p n wt mk lk fl cy of_ f1 f2 sq A9 ag.length c9 A13 bd.length c13 _).mono ?_
 rintro e w2 ⟨rfl, hb⟩
 have kb := below_alloc (Below.refl w.heap.size w) (.cells #[.int .i64 5, .int .i64 p, .int .i64 n, .int .i64 wt, .int .i64 mk, .int .i64 lk, .bool fl, .int .i64 cy, .int .i64 of_, .slice A9 ag.length c9, .int .i64 f1, .int .i64 f2, .int .i64 sq, .slice A13 bd.length c13] 26)
 have HB2 := Aside0.mk (below_step kb hb)
 have HP2 : Aside0 (w2.heap[w.heap.size]? = some (.cells #[.int .i64 5, .int .i64 p, .int .i64 n, .int .i64 wt, .int .i64 mk, .int .i64 lk, .bool fl, .int .i64 cy, .int .i64 of_, .slice A9 ag.length c9, .int .i64 f1, .int .i64 f2, .int .i64 sq, .slice A13 bd.length c13] 26 (0, 0))) := ⟨(hb.block w.heap.size (blk_lt (heap_alloc_new w _))).trans (heap_alloc_new w _)⟩
 obtain ⟨b1, hb1⟩ : ∃ b1, b1 = w.heap.size := ⟨_, rfl⟩
 rw [← hb1] at HP2
 rw [← hb1]
 have HB1 := Aside0.mk hb1
 clear hb kb hb1
 have x0 : ∀ o : Obj, (w2.alloc o).cell? ⟨b1, 0, none⟩ = some (.int .i64 5) := fun o => (blk_cell ((Below.heap_alloc w2 o b1 (blk_lt HP2.out)).trans HP2.out) 0).trans rfl
 have x1 : ∀ o : Obj, (w2.alloc o).cell? ⟨b1, 1, none⟩ = some (.int .i64 p) := fun o => (blk_cell ((Below.heap_alloc w2 o b1 (blk_lt HP2.out)).trans HP2.out) 1).trans rfl
 have x2 : ∀ o : Obj, (w2.alloc o).cell? ⟨b1, 2, none⟩ = some (.int .i64 n) := fun o => (blk_cell ((Below.heap_alloc w2 o b1 (blk_lt HP2.out)).trans HP2.out) 2).trans rfl
 have x3 : ∀ o : Obj, (w2.alloc o).cell? ⟨b1, 3, none⟩ = some (.int .i64 wt) := fun o => (blk_cell ((Below.heap_alloc w2 o b1 (blk_lt HP2.out)).trans HP2.out) 3).trans rfl
 have x4 : ∀ o : Obj, (w2.alloc o).cell? ⟨b1, 4, none⟩ = some (.int .i64 mk) := fun o => (blk_cell ((Below.heap_alloc w2 o b1 (blk_lt HP2.out)).trans HP2.out) 4).trans rfl
 have x5 : ∀ o : Obj, (w2.alloc o).cell? ⟨b1, 5, none⟩ = some (.int .i64 lk) := fun o => (blk_cell ((Below.heap_alloc w2 o b1 (blk_lt HP2.out)).trans HP2.out) 5).trans rfl
 have x6 : ∀ o : Obj, (w2.alloc o).cell? ⟨b1, 6, none⟩ = some (.bool fl) := fun o => (blk_cell ((Below.heap_alloc w2 o b1 (blk_lt HP2.out)).trans HP2.out) 6).trans rfl
 have x7 : ∀ o : Obj, (w2.alloc o).cell? ⟨b1, 7, none⟩ = some (.int .i64 cy) := fun o => (blk_cell ((Below.heap_alloc w2 o b1 (blk_lt HP2.out)).trans HP2.out) 7).trans rfl
 have x8 : ∀ o : Obj, (w2.alloc o).cell? ⟨b1, 8, none⟩ = some (.int .i64 of_) := fun o => (blk_cell ((Below.heap_alloc w2 o b1 (blk_lt HP2.out)).trans HP2.out) 8).trans rfl
 have x9 : ∀ o : Obj, (w2.alloc o).cell? ⟨b1, 9, none⟩ = some (.slice A9 ag.length c9) := fun o => (blk_cell ((Below.heap_alloc w2 o b1 (blk_lt HP2.out)).trans HP2.out) 9).trans rfl
 have x10 : ∀ o : Obj, (w2.alloc o).cell? ⟨b1, 10, none⟩ = some (.int .i64 f1) := fun o => (blk_cell ((Below.heap_alloc w2 o b1 (blk_lt HP2.out)).trans HP2.out) 10).trans rfl
 have x11 : ∀ o : Obj, (w2.alloc o).cell? ⟨b1, 11, none⟩ = some (.int .i64 f2) := fun o => (blk_cell ((Below.heap_alloc w2 o b1 (blk_lt HP2.out)).trans HP2.out) 11).trans rfl
 have x12 : ∀ o : Obj, (w2.alloc o).cell? ⟨b1, 12, none⟩ = some (.int .i64 sq) := fun o => (blk_cell ((Below.heap_alloc w2 o b1 (blk_lt HP2.out)).trans HP2.out) 12).trans rfl
 have x13 : ∀ o : Obj, (w2.alloc o).cell? ⟨b1, 13, none⟩ = some (.slice A13 bd.length c13) := fun o => (blk_cell ((Below.heap_alloc w2 o b1 (blk_lt HP2.out)).trans HP2.out) 13).trans rfl
 go_wp2_with fail
 refine (frame_Same.calls kf 5 p n 0 0 lk false 0 0 none 0 [] f1 f2 sq A13 c13 bd 5 p n wt mk lk fl cy of_ A9 c9 ag f1 f2 sq A13 c13 bd s _ (C_nil_ (Kd.int .i64) _) (Nat.le_refl 0) (Kd.C_below H13.out (below_alloc HB2.out _)) Q13.out (Kd.C_below H9.out (below_alloc HB2.out _)) Q9.out (Kd.C_below H13.out (below_alloc HB2.out _)) Q13.out HS.out).mono ?_
 rintro e w3 ⟨rfl, hb⟩
 have HB3 := Aside0.mk (below_step (below_alloc HB2.out _) hb)
 have HP3 := Aside0.mk ((hb.block b1 (Nat.lt_of_lt_of_le (blk_lt HP2.out) (below_alloc (Below.refl w2.heap.size w2) _).size)).trans ((Below.heap_alloc w2 _ b1 (blk_lt HP2.out)).trans HP2.out))
 clear hb x0 x1 x2 x3 x4 x5 x6 x7 x8 x9 x10 x11 x12 x13
 obtain ⟨x0, x1, x2, x3, x4, x5, x6, x7, x8, x9, x10, x11, x12, x13⟩ := cellsK14 HP3.out
 clear HS
 cases s with
 | false =>
  go_wp2_with fail
  go_ret
  exact ⟨rfl, by repeat (first | exact HB3.out | apply pw_below_drewN)⟩
 | true =>
  go_wp2_with fail
  refine (frame_index.calls p 6 tp _ Ttp.out).mono ?_
  rintro e wd ⟨rfl, ⟨m0, rfl⟩⟩
  clear Ttp
  cases tp with
  | false =>
   go_wp2_with fail
   go_ret
   exact ⟨rfl, by repeat (first | exact HB3.out | apply pw_below_drewN)⟩
  | true =>
   go_wp2_with fail
   refine (frame_index.calls n 12 tn _ Ttn.out).mono ?_
   rintro e wd ⟨rfl, ⟨m1, rfl⟩⟩
   clear Ttn
   cases tn with
   | false =>
    go_wp2_with fail
    go_ret
    exact ⟨rfl, by repeat (first | exact HB3.out | apply pw_below_drewN)⟩
   | true =>
    go_wp2_with fail
    refine (frame_index.calls lk 10 tl _ Ttl.out).mono ?_
    rintro e wd ⟨rfl, ⟨m2, rfl⟩⟩
    clear Ttl
    cases tl with
    | false =>
     go_wp2_with fail
     go_ret
     exact ⟨rfl, by repeat (first | exact HB3.out | apply pw_below_drewN)⟩
    | true =>
     go_wp2_with fail
     refine (frame_index.calls f1 6 ta _ Tta.out).mono ?_
     rintro e wd ⟨rfl, ⟨m3, rfl⟩⟩
     clear Tta
     cases ta with
     | false =>
      go_wp2_with fail
      go_ret
      exact ⟨rfl, by repeat (first | exact HB3.out | apply pw_below_drewN)⟩
     | true =>
      go_wp2_with fail
      refine (frame_index.calls f2 6 tb _ Ttb.out).mono ?_
      rintro e wd ⟨rfl, ⟨m4, rfl⟩⟩
      clear Ttb
      cases tb with
      | false =>
       go_wp2_with fail
       go_ret
       exact ⟨rfl, by repeat (first | exact HB3.out | apply pw_below_drewN)⟩
      | true =>
       go_wp2_with fail
       refine (frame_within.calls sq 1 2147483648 ts _ Tts.out).mono ?_
       rintro e wd ⟨rfl, ⟨m5, rfl⟩⟩
       clear Tts
       cases ts with
       | false =>
        go_wp2_with fail
        go_ret
        exact ⟨rfl, by repeat (first | exact HB3.out | apply pw_below_drewN)⟩
       | true =>
        go_wp2_with fail
        go_ret
        exact ⟨rfl, by repeat (first | exact HB3.out | apply pw_below_drewN)⟩
set_option maxHeartbeats 8000000 in
theorem may0 (k : Int) (p n wt mk lk : Int) (fl : Bool) (cy of_ : Int) (A9 : Option Addr) (c9 : Nat) (ag : List Int) (f1 f2 sq : Int) (A13 : Option Addr) (c13 : Nat) (bd : List Int) (w : World) (hk : k < 1 ∨ 5 < k) :
  Calls Tryz.prog 21 #[.agg #[.int .i64 k, .int .i64 p, .int .i64 n, .int .i64 wt, .int .i64 mk, .int .i64 lk, .bool fl, .int .i64 cy, .int .i64 of_, .slice A9 ag.length c9, .int .i64 f1, .int .i64 f2, .int .i64 sq, .slice A13 bd.length c13]] w fun e w' => e = .returned (.bool false) ∧ Below w.heap.size w w' := by
 go_enter Tryz.func21, Tryz.ntmps21
 go_wp2_with fail
 refine (bare0 k p n wt mk lk fl cy of_ f1 f2 sq A9 ag.length c9 A13 bd.length c13 _ hk).mono ?_
 rintro e w2 ⟨rfl, hb⟩
 have HB2 := Aside0.mk (below_step (below_alloc (Below.refl w.heap.size w) _) hb)
 clear hb hk
 go_wp2_with fail
 go_ret
 exact ⟨rfl, below_alloc HB2.out _⟩
def frame_May.f (kf : Nat) (k p n wt mk lk : Int) (fl : Bool) (cy of_ : Int) (ag : List Int) (f1 f2 sq : Int) (bd : List Int) : Option Bool :=
 if k = 1 then (frame_Same.f kf 1 p n wt 0 0 false 0 0 [] 0 0 0 [] 1 p n wt mk lk fl cy of_ ag f1 f2 sq bd).bind fun s => some (s && (idx p 6 && (idx n 12 && (idx lk 10 && (inr wt 0 60000)))))
 else if k = 2 then (frame_Same.f kf 2 p n 0 mk 0 false cy 0 ag 0 0 0 [] 2 p n wt mk lk fl cy of_ ag f1 f2 sq bd).bind fun s => some (s && (idx p 6 && (idx n 12 && (idx lk 10 && (idx mk 4096 && (inr cy 0 1099511627776 && (agesOk ag)))))))
 else if k = 3 then (frame_Same.f kf 3 p n 0 0 lk fl cy of_ [] 0 0 0 [] 3 p n wt mk lk fl cy of_ ag f1 f2 sq bd).bind fun s => some (s && (idx p 6 && (idx n 12 && (idx lk 10 && (inr cy 0 1099511627776 && (inr of_ (-1099511627776) 1099511627776))))))
 else if k = 4 then (frame_Same.f kf 4 p n 0 0 lk false 0 0 ag 0 0 0 [] 4 p n wt mk lk fl cy of_ ag f1 f2 sq bd).bind fun s => some (s && (idx p 6 && (idx n 12 && (idx lk 10 && (agesOk ag)))))
 else if k = 5 then (frame_Same.f kf 5 p n 0 0 lk false 0 0 [] f1 f2 sq bd 5 p n wt mk lk fl cy of_ ag f1 f2 sq bd).bind fun s => some (s && (idx p 6 && (idx n 12 && (idx lk 10 && (idx f1 6 && (idx f2 6 && (inr sq 1 2147483648 && (decide ((bd.length : Int) ≤ 24)))))))))
 else some false
theorem frame_May.calls (k : Nat) (a0_0 a0_1 a0_2 a0_3 a0_4 a0_5 : Int) (a0_6 : Bool) (a0_7 a0_8 : Int) (A0_9 : Option Addr) (c0_9 : Nat) (l0_9 : List Int) (a0_10 a0_11 a0_12 : Int) (A0_13 : Option Addr) (c0_13 : Nat) (l0_13 : List Int) (r : Bool) (w : World) (hr0_9 : Kd.C (Kd.int .i64) w A0_9 l0_9.length l0_9) (hc0_9 : l0_9.length ≤ c0_9) (hr0_13 : Kd.C (Kd.int .u8) w A0_13 l0_13.length l0_13) (hc0_13 : l0_13.length ≤ c0_13) (h : frame_May.f k a0_0 a0_1 a0_2 a0_3 a0_4 a0_5 a0_6 a0_7 a0_8 l0_9 a0_10 a0_11 a0_12 l0_13 = some r) :
  Calls Tryz.prog 21 #[.agg #[.int .i64 a0_0, .int .i64 a0_1, .int .i64 a0_2, .int .i64 a0_3, .int .i64 a0_4, .int .i64 a0_5, .bool a0_6, .int .i64 a0_7, .int .i64 a0_8, .slice A0_9 l0_9.length c0_9, .int .i64 a0_10, .int .i64 a0_11, .int .i64 a0_12, .slice A0_13 l0_13.length c0_13]] w fun e w' => e = .returned (.bool r) ∧ Below w.heap.size w w' := by
 unfold frame_May.f at h
 by_cases e1 : a0_0 = 1
 ·rw [if_pos e1] at h
  obtain ⟨s, hs, h⟩ := Option.bind_eq_some_iff.mp h
  subst e1
  obtain rfl := Option.some.inj h
  exact may1 k a0_1 a0_2 a0_3 a0_4 a0_5 a0_6 a0_7 a0_8 A0_9 c0_9 l0_9 a0_10 a0_11 a0_12 A0_13 c0_13 l0_13 s w hr0_9 hc0_9 hr0_13 hc0_13 hs
 rw [if_neg e1] at h
 by_cases e2 : a0_0 = 2
 ·rw [if_pos e2] at h
  obtain ⟨s, hs, h⟩ := Option.bind_eq_some_iff.mp h
  subst e2
  obtain rfl := Option.some.inj h
  exact may2 k a0_1 a0_2 a0_3 a0_4 a0_5 a0_6 a0_7 a0_8 A0_9 c0_9 l0_9 a0_10 a0_11 a0_12 A0_13 c0_13 l0_13 s w hr0_9 hc0_9 hr0_13 hc0_13 hs
 rw [if_neg e2] at h
 by_cases e3 : a0_0 = 3
 ·rw [if_pos e3] at h
  obtain ⟨s, hs, h⟩ := Option.bind_eq_some_iff.mp h
  subst e3
  obtain rfl := Option.some.inj h
  exact may3 k a0_1 a0_2 a0_3 a0_4 a0_5 a0_6 a0_7 a0_8 A0_9 c0_9 l0_9 a0_10 a0_11 a0_12 A0_13 c0_13 l0_13 s w hr0_9 hc0_9 hr0_13 hc0_13 hs
 rw [if_neg e3] at h
 by_cases e4 : a0_0 = 4
 ·rw [if_pos e4] at h
  obtain ⟨s, hs, h⟩ := Option.bind_eq_some_iff.mp h
  subst e4
  obtain rfl := Option.some.inj h
  exact may4 k a0_1 a0_2 a0_3 a0_4 a0_5 a0_6 a0_7 a0_8 A0_9 c0_9 l0_9 a0_10 a0_11 a0_12 A0_13 c0_13 l0_13 s w hr0_9 hc0_9 hr0_13 hc0_13 hs
 rw [if_neg e4] at h
 by_cases e5 : a0_0 = 5
 ·rw [if_pos e5] at h
  obtain ⟨s, hs, h⟩ := Option.bind_eq_some_iff.mp h
  subst e5
  obtain rfl := Option.some.inj h
  exact may5 k a0_1 a0_2 a0_3 a0_4 a0_5 a0_6 a0_7 a0_8 A0_9 c0_9 l0_9 a0_10 a0_11 a0_12 A0_13 c0_13 l0_13 s w hr0_9 hc0_9 hr0_13 hc0_13 hs
 rw [if_neg e5] at h
 obtain rfl := Option.some.inj h
 exact may0 a0_0 a0_1 a0_2 a0_3 a0_4 a0_5 a0_6 a0_7 a0_8 A0_9 c0_9 l0_9 a0_10 a0_11 a0_12 A0_13 c0_13 l0_13 w (by omega)
theorem frame_May.mono : ∀ a0 a1 a2 a3 a4 a5 a6 a7 a8 a9 a10 a11 a12 a13 k, LeO (frame_May.f k a0 a1 a2 a3 a4 a5 a6 a7 a8 a9 a10 a11 a12 a13) (frame_May.f (k + 1) a0 a1 a2 a3 a4 a5 a6 a7 a8 a9 a10 a11 a12 a13) := by
 intro a0 a1 a2 a3 a4 a5 a6 a7 a8 a9 a10 a11 a12 a13 k
 unfold frame_May.f
 repeat' first
   | exact frame_Same.mono _ _ _ _ _ _ _ _ _ _ _ _ _ _ _ _ _ _ _ _ _ _ _ _ _ _ _ _ _
   | (with_reducible exact LeO.refl _)
   | (with_reducible exact LeO.none _)
   | (with_reducible refine LeO.ite ?_ ?_)
   | (with_reducible refine LeO.bind ?_ (fun _ => ?_))
   | exact LeO.refl _
   | refine LeO.ite ?_ ?_
   | refine LeO.bind ?_ (fun _ => ?_)
end Go.Proofs.YtaaifdclojkdmaaGreatDoor.MFr
