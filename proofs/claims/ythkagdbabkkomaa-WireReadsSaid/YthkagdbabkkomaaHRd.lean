/- The reader: what New, Take, At and Bad do, for whatever bytes. -/
import Derived.Test.YthkagdbabkkomaaMWix0
import Derived.Deep.RegionHeld3
set_option linter.unusedVariables false
set_option linter.unusedSimpArgs false
namespace Go.Proofs.Ythkagdbabkkomaa.HRd
open Go.RowKit Go.Proofs.Ythkagdbabkkomaa.MWi Go.Proofs.YthkagdbabkkomaaW.PrintWords Go.Proofs.YthkagdbabkkomaaW.PrintLast Go.Proofs.YthkagdbabkkomaaW.PrintMore
theorem hinfo5 : (Try.prog.info? 5).map (fun i => (i.zero, i.size, i.bytes)) = some (some (.int .u8 0), 1, 1) := by kernel_rfl
/-- A reader at block g: its bytes, where it stands, whether it is bad. -/
def Rd (W : World) (base g : Nat) (v : Value) (l : List Int) (at_ : Int) (bad : Bool) : Prop :=
  W.heap[g]? = some (.cells #[v, .int .i64 at_, .bool bad] 62 (0, 0)) ∧ Kd.R (Kd.int .u8) 5 W base (fun k => k ≠ g) v l ∧ base ≤ g
set_option maxHeartbeats 1000000 in
theorem new_walk (A0 : Option Addr) (c0 : Nat) (l : List Int) (w : World) (hr : Kd.C (Kd.int .u8) w A0 l.length l) (hl : l.length < 140737488355328) :
    Calls Try.prog 30 #[.slice A0 l.length c0] w fun e w' => ∃ g v, e = .returned (.pointer (some ⟨g, 0, none⟩)) ∧ Rd w' w.heap.size g v l 0 false ∧ Below w.heap.size w w' := by
  have HR0 := Aside0.mk hr
  have HL := Aside0.mk hl
  clear hr hl
  go_enter Try.func30, Try.ntmps30
  go_wp2_with (first | ((with_reducible refine gate_builtin (b := .append) (xs := #[.const (.slice none 0 0), .tmp 3]) rfl ?_); at_builtin; refine Kd.R_append_rows (Kd.int .u8) (w0 := w) w.heap.size rfl (.const (.slice none 0 0)) (.tmp 3) 22 5 (.int .u8 0) 1 rfl Try.underlying22 hinfo5 rfl (by decide) (by omega) (.slice none 0 0) ([] : List Int) l _ _ _ (fun _ => True) (fun _ => False) rfl rfl ?aO ?aR (fun _ _ h => h) (fun _ h => h.elim) ?aF ?aB ?aS ?aL ?_; (case aR => exact HR0.out); (case aB => exact Below.refl _ _); (case aF => exact (fun _ _ => trivial)); (case aO => exact (Kd.R_nil _ _ _ _ _)); (case aS => exact Nat.le_refl _); (case aL => have := HL.out; simp only [List.length_nil]; omega); intro v w1 ho hb hg hat; rw [List.nil_append] at ho; obtain ⟨A1, c1, e1⟩ := Kd.R_slice ho; subst e1; have HO := Aside0.mk ho; have HB := Aside0.mk hb; clear ho hb hg hat))
  go_ret
  refine ⟨w1.heap.size, .slice A1 l.length c1, rfl, ⟨by simpa using heap_alloc_new w1 _, Kd.R_mono (Kd.R_step (Kd.R_bound HO.out) (fun k hk hlt => ?_)) (fun k hk => ?_), HB.out.size⟩, below_alloc HB.out _⟩
  · exact (below_alloc (Below.refl w1.heap.size w1) _).block k hlt
  · have := hk.2.2.1; omega
theorem Rd.cell {W : World} {base g : Nat} {v : Value} {l : List Int} {at_ : Int} {bad : Bool} (h : Rd W base g v l at_ bad) :
    W.cell? ⟨g, 0, none⟩ = some v ∧ W.cell? ⟨g, 1, none⟩ = some (.int .i64 at_) ∧ W.cell? ⟨g, 2, none⟩ = some (.bool bad) :=
  ⟨(blk_cell h.1 0).trans rfl, (blk_cell h.1 1).trans rfl, (blk_cell h.1 2).trans rfl⟩
theorem Rd.put {W : World} {base g : Nat} {v : Value} {l : List Int} {at_ : Int} {bad : Bool} (h : Rd W base g v l at_ bad) :
    (∀ n : Int, Rd (W.setCell ⟨g, 1, none⟩ (.int .i64 n)) base g v l n bad) ∧ (∀ b : Bool, Rd (W.setCell ⟨g, 2, none⟩ (.bool b)) base g v l at_ b) :=
  ⟨fun n => ⟨by simpa using blk_set h.1 1 (.int .i64 n), Kd.R_far h.2.1 (fun k hk => hk) _, h.2.2⟩, fun b => ⟨by simpa using blk_set h.1 2 (.bool b), Kd.R_far h.2.1 (fun k hk => hk) _, h.2.2⟩⟩
set_option maxHeartbeats 1000000 in
theorem take_bad {base g : Nat} {v : Value} {l : List Int} {at_ : Int} (n : Int) (w : World) (h : Rd w base g v l at_ true) :
    Calls Try.prog 31 #[.pointer (some ⟨g, 0, none⟩), .int .i64 n] w fun e w' => e = .returned (.slice none 0 0) ∧ w' = w := by
  have hc := h.cell.2.2
  clear h
  go_enter Try.func31, Try.ntmps31
  go_wp2
  go_ret
  exact ⟨rfl, rfl⟩
set_option maxHeartbeats 1000000 in
theorem take_no {base g : Nat} {A : Option Addr} {c : Nat} {l : List Int} {at_ : Int} (n : Int) (w : World) (h : Rd w base g (.slice A l.length c) l at_ false) (a0 : 0 ≤ at_) (a1 : at_ ≤ l.length) (hl : l.length ≤ 1000000) (hn : n < 0 ∨ (l.length : Int) - at_ < n) :
    Calls Try.prog 31 #[.pointer (some ⟨g, 0, none⟩), .int .i64 n] w fun e w' => e = .returned (.slice none 0 0) ∧ ∃ m, w' = (w.drewN m).setCell ⟨g, 2, none⟩ (.bool true) := by
  obtain ⟨hc0, hc1, hc2⟩ := h.cell
  have hf2 := blk_frozen h.1 2
  clear h
  rcases Int.lt_or_le n 0 with hn0 | hn0
  · have hd : decide (n < 0) = true := decide_eq_true hn0
    go_enter Try.func31, Try.ntmps31
    go_wp2
    go_quiet (fail)
    go_wp2
    go_ret
    exact ⟨rfl, _, rfl⟩
  · have hd : decide (n < 0) = false := decide_eq_false (by omega)
    have hn1 : (l.length : Int) - at_ < n := by omega
    have hd1 : decide ((l.length : Int) - at_ < n) = true := decide_eq_true hn1
    clear hn
    go_enter Try.func31, Try.ntmps31
    go_wp2
    go_quiet (fail)
    go_wp2
    go_ret
    exact ⟨rfl, _, rfl⟩
end Go.Proofs.Ythkagdbabkkomaa.HRd
