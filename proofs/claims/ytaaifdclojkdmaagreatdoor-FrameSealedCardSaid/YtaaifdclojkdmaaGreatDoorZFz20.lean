/- Texts of this claim, laid together by a program (wip/e/merge2.py): HDc. -/
import Derived.Test.YtaaifdclojkdmaaGreatDoorZFz11
import Derived.Test.YtaaifdclojkdmaaGreatDoorZFz19
import Derived.Deep.RegionWith
set_option linter.unusedVariables false
set_option linter.unusedSimpArgs false
set_option maxRecDepth 100000
namespace Go.Proofs.YtaaifdclojkdmaaGreatDoor.MFr
open Go.RowKit Go.Proofs.YtaaifdclojkdmaaGreatDoorW.PrintWords Go.Proofs.YtaaifdclojkdmaaGreatDoorW.PrintLast Go.Proofs.YtaaifdclojkdmaaGreatDoorW.PrintMore Go.Proofs.YtaaifdclojkdmaaGreatDoor.Wire Go.Proofs.YtaaifdclojkdmaaGreatDoor.Evl Go.Proofs.YtaaifdclojkdmaaGreatDoor.PSum
def parseF (l : List Int) : Fr × Int × Int :=
 if l.length < 7 then (Fr.zero, 2, 0)
 else if isSld l = false then (Fr.zero, 4, (l.length : Int) - 4)
 else if rd l 0 < 1 ∨ 5 < rd l 0 then (Fr.zero, 5, 0)
 else if (fieldsF (l.take (l.length - 4)) ⟨1, 0, 0⟩ (rd l 0)).2.e ≠ 0 then (Fr.zero, (fieldsF (l.take (l.length - 4)) ⟨1, 0, 0⟩ (rd l 0)).2.e, (fieldsF (l.take (l.length - 4)) ⟨1, 0, 0⟩ (rd l 0)).2.ea)
 else if 0 < ((l.take (l.length - 4)).length : Int) - (fieldsF (l.take (l.length - 4)) ⟨1, 0, 0⟩ (rd l 0)).2.at_ then (Fr.zero, 3, (fieldsF (l.take (l.length - 4)) ⟨1, 0, 0⟩ (rd l 0)).2.at_)
 else ((fieldsF (l.take (l.length - 4)) ⟨1, 0, 0⟩ (rd l 0)).1, 0, 0)
theorem num_first {l : List Int} (hb : Bys l) (h : 1 ≤ l.length) : numR (cut l 0 1) = rd l 0 := by
 cases l with
 | nil => simp at h
 | cons a t =>
  have e : cut (a :: t) 0 1 = [a] := by unfold cut; simp
  rw [e]
  unfold numR
  simp [num, p, rd]
theorem rd_take {l : List Int} {n : Nat} (h : 1 ≤ n) : rd (l.take n) 0 = rd l 0 := by
 cases l with
 | nil => simp
 | cons a t =>
  obtain ⟨m, rfl⟩ : ∃ m, n = m + 1 := ⟨n - 1, by omega⟩
  simp [rd]
theorem parse_walk (A0 : Option Addr) (c0 : Nat) (l : List Int) (w : World) (hr : Kd.C (Kd.int .u8) w A0 l.length l) (hc : l.length ≤ c0) (hl : l.length ≤ 100000) (hby : Bys l) {k p n wt mk lk : Int} {fl : Bool} {cy of_ : Int} {ag : List Int} {f1 f2 sq : Int} {bd : List Int} {e ea : Int} (hp : parseF l = (⟨k, p, n, wt, mk, lk, fl, cy, of_, ag, f1, f2, sq, bd⟩, e, ea)) :
  Calls Tryz.prog 14 #[.slice A0 l.length c0] w fun e' w' => ∃ A9 c9 A13 c13 ev, e' = .returned (.tuple #[.agg #[.int .i64 k, .int .i64 p, .int .i64 n, .int .i64 wt, .int .i64 mk, .int .i64 lk, .bool fl, .int .i64 cy, .int .i64 of_, .slice A9 ag.length c9, .int .i64 f1, .int .i64 f2, .int .i64 sq, .slice A13 bd.length c13], ev]) ∧ (Kd.int .i64).R 3 w' w.heap.size (fun _ => True) (.slice A9 ag.length c9) ag ∧ (Kd.int .u8).R 5 w' w.heap.size (fun _ => True) (.slice A13 bd.length c13) bd ∧ Er w' w.heap.size ev e ea ∧ Below w.heap.size w w' := by
 obtain ⟨ko, hko⟩ := (open_evl hby hl).some_
 unfold parseF at hp
 by_cases h7 : l.length < 7
 ·rw [if_pos h7] at hp
  simp only [Fr.zero, Prod.mk.injEq, Fr.mk.injEq] at hp
  obtain ⟨⟨rfl, rfl, rfl, rfl, rfl, rfl, rfl, rfl, rfl, rfl, rfl, rfl, rfl, rfl⟩, rfl, rfl⟩ := hp
  refine (parse_short A0 c0 l w hr hc h7).mono ?_
  rintro e w' ⟨ev, rfl, hE, hB⟩
  exact ⟨none, 0, none, 0, ev, rfl, Kd.R_nil _ _ _ _ _, Kd.R_nil _ _ _ _ _, hE, hB⟩
 rw [if_neg h7] at hp
 by_cases hs : isSld l = false
 ·rw [if_pos hs] at hp
  simp only [Fr.zero, Prod.mk.injEq, Fr.mk.injEq] at hp
  obtain ⟨⟨rfl, rfl, rfl, rfl, rfl, rfl, rfl, rfl, rfl, rfl, rfl, rfl, rfl, rfl⟩, rfl, rfl⟩ := hp
  rw [hs] at hko
  refine (parse_sum A0 c0 l w hr hc (by omega) (by omega) ko _ hko).mono ?_
  rintro e w' ⟨ev, rfl, hE, hB⟩
  exact ⟨none, 0, none, 0, ev, rfl, Kd.R_nil _ _ _ _ _, Kd.R_nil _ _ _ _ _, hE, hB⟩
 rw [if_neg hs] at hp
 rw [if_pos (by simpa using hs)] at hko
 by_cases hk : rd l 0 < 1 ∨ 5 < rd l 0
 ·rw [if_pos hk] at hp
  simp only [Fr.zero, Prod.mk.injEq, Fr.mk.injEq] at hp
  obtain ⟨⟨rfl, rfl, rfl, rfl, rfl, rfl, rfl, rfl, rfl, rfl, rfl, rfl, rfl, rfl⟩, rfl, rfl⟩ := hp
  have hkb : 0 ≤ rd l 0 ∧ rd l 0 ≤ 255 := hby (rd l 0) (by unfold rd; rw [List.getD_eq_getElem?_getD, List.getElem?_eq_getElem (by simp; omega)]; simp)
  refine (parse_kind A0 c0 l w hr hc (by omega) (by omega) ko _ hko _ rfl hk hkb).mono ?_
  rintro e w' ⟨ev, rfl, hE, hB⟩
  exact ⟨none, 0, none, 0, ev, rfl, Kd.R_nil _ _ _ _ _, Kd.R_nil _ _ _ _ _, hE, hB⟩
 rw [if_neg hk] at hp
 obtain ⟨x, hx⟩ : ∃ x, l.take (l.length - 4) = x := ⟨_, rfl⟩
 have hxl : x.length = l.length - 4 := by rw [← hx, List.length_take]; omega
 have hxb : Bys x := by rw [← hx]; exact bys_take hby _
 have hx0 : rd x 0 = rd l 0 := by rw [← hx]; exact rd_take (by omega)
 have hn : numR (cut x 0 1) = rd l 0 := (num_first hxb (by omega)).trans hx0
 rw [hx] at hp hko
 obtain ⟨⟨⟨k', p', n', wt', mk', lk', fl', cy', of', ag', f1', f2', sq', bd'⟩, s'⟩, hf⟩ : ∃ r, fieldsF x ⟨1, 0, 0⟩ (rd l 0) = r := ⟨_, rfl⟩
 rw [hf] at hp
 dsimp only at hp
 by_cases he : s'.e ≠ 0
 ·rw [if_pos he] at hp
  simp only [Fr.zero, Prod.mk.injEq, Fr.mk.injEq] at hp
  obtain ⟨⟨rfl, rfl, rfl, rfl, rfl, rfl, rfl, rfl, rfl, rfl, rfl, rfl, rfl, rfl⟩, rfl, rfl⟩ := hp
  refine (parse_err A0 c0 l w hr hc (by omega) (by omega) hby ko x hko _ rfl (by omega) hn (by omega) (by omega) hxb hf he).mono ?_
  rintro e w' ⟨ev, rfl, hE, hB⟩
  exact ⟨none, 0, none, 0, ev, rfl, Kd.R_nil _ _ _ _ _, Kd.R_nil _ _ _ _ _, hE, hB⟩
 rw [if_neg he] at hp
 have he0 : s'.e = 0 := by simpa using he
 by_cases hl2 : 0 < (x.length : Int) - s'.at_
 ·rw [if_pos hl2] at hp
  simp only [Fr.zero, Prod.mk.injEq, Fr.mk.injEq] at hp
  obtain ⟨⟨rfl, rfl, rfl, rfl, rfl, rfl, rfl, rfl, rfl, rfl, rfl, rfl, rfl, rfl⟩, rfl, rfl⟩ := hp
  refine (parse_long A0 c0 l w hr hc (by omega) (by omega) hby ko x hko _ rfl (by omega) hn (by omega) (by omega) hxb hf ⟨he0, hl2⟩).mono ?_
  rintro e w' ⟨ev, rfl, hE, hB⟩
  exact ⟨none, 0, none, 0, ev, rfl, Kd.R_nil _ _ _ _ _, Kd.R_nil _ _ _ _ _, hE, hB⟩
 rw [if_neg hl2] at hp
 simp only [Prod.mk.injEq, Fr.mk.injEq] at hp
 obtain ⟨⟨rfl, rfl, rfl, rfl, rfl, rfl, rfl, rfl, rfl, rfl, rfl, rfl, rfl, rfl⟩, rfl, rfl⟩ := hp
 refine (parse_ok A0 c0 l w hr hc (by omega) (by omega) hby ko x hko _ rfl (by omega) hn (by omega) (by omega) hxb hf ⟨he0, by omega⟩).mono ?_
 rintro e w' ⟨A9, c9, A13, c13, rfl, h9, h13, hB⟩
 exact ⟨A9, c9, A13, c13, _, rfl, h9, h13, .inl ⟨rfl, rfl⟩, hB⟩
def Cd (s : St) : Prop := s.e = 0 ∨ s.e = 2 ∨ s.e = 6
theorem Cd.enough {l : List Int} {s : St} {n : Int} (h : Cd s) : Cd (enoughS l s n) := by
 unfold enoughS; split
 ·exact .inr (.inl rfl)
 ·exact h
theorem Cd.plain {l : List Int} {s : St} {n lo hi : Int} (h : Cd s) : Cd (plainS l s n lo hi) := by
 unfold plainS; split
 ·split
  ·exact .inl rfl
  ·exact .inr (.inr rfl)
 ·exact h.enough
theorem Cd.signed {l : List Int} {s : St} {n : Int} (h : Cd s) : Cd (signedS l s n) := by
 unfold signedS; split
 ·split
  ·exact .inl rfl
  ·exact .inr (.inr rfl)
 ·exact h.enough
theorem Cd.agesR {l : List Int} : ∀ (n : Nat) {s : St} (acc : List Int), Cd s → Cd (agesR l n s acc).2
 | 0, s, acc, h => h
 | n + 1, s, acc, h => by
  unfold MFr.agesR; split
  ·exact Cd.agesR n _ h.plain
  ·exact h
theorem Cd.body {l : List Int} {s : St} (h : Cd s) : Cd (bodyF l s).2 := by
 unfold bodyF; split
 ·exact .inl rfl
 ·exact h.plain.enough
theorem Cd.fields {l : List Int} {s : St} {k : Int} (h : Cd s) : Cd (fieldsF l s k).2 := by
 unfold fieldsF
 dsimp only
 split
 ·exact h.plain.plain.plain
 ·split
  ·exact Cd.agesR _ _ (Cd.plain h.plain.plain.plain.plain)
  ·split
   ·exact Cd.signed h.plain.plain.plain.plain.plain
   ·split
    ·exact Cd.agesR _ _ (Cd.plain h.plain.plain.plain)
    ·exact Cd.body h.plain.plain.plain.plain.plain.plain
theorem parse_code (l : List Int) : (parseF l).2.1 = 0 ∨ (parseF l).2.1 = 2 ∨ (parseF l).2.1 = 3 ∨ (parseF l).2.1 = 4 ∨ (parseF l).2.1 = 5 ∨ (parseF l).2.1 = 6 := by
 have hc := Cd.fields (l := l.take (l.length - 4)) (s := ⟨1, 0, 0⟩) (k := rd l 0) (.inl rfl)
 unfold parseF
 split
 ·exact .inr (.inl rfl)
 ·split
  ·exact .inr (.inr (.inr (.inl rfl)))
  ·split
   ·exact .inr (.inr (.inr (.inr (.inl rfl))))
   ·split
    ·rcases hc with h | h | h
     ·exact .inl h
     ·exact .inr (.inl h)
     ·exact .inr (.inr (.inr (.inr (.inr h))))
    ·split
     ·exact .inr (.inr (.inl rfl))
     ·exact .inl rfl
theorem parse_none (l : List Int) (h : (parseF l).2.1 = 0) : (parseF l).2.2 = 0 := by
 unfold parseF at h ⊢
 by_cases h7 : l.length < 7
 ·rw [if_pos h7] at h; simp at h
 rw [if_neg h7] at h ⊢
 by_cases hs : isSld l = false
 ·rw [if_pos hs] at h; simp at h
 rw [if_neg hs] at h ⊢
 by_cases hk : rd l 0 < 1 ∨ 5 < rd l 0
 ·rw [if_pos hk] at h; simp at h
 rw [if_neg hk] at h ⊢
 by_cases he : (fieldsF (l.take (l.length - 4)) ⟨1, 0, 0⟩ (rd l 0)).2.e ≠ 0
 ·rw [if_pos he] at h
  exact absurd h he
 rw [if_neg he] at h ⊢
 by_cases hl : 0 < ((l.take (l.length - 4)).length : Int) - (fieldsF (l.take (l.length - 4)) ⟨1, 0, 0⟩ (rd l 0)).2.at_
 ·rw [if_pos hl] at h; simp at h
 rw [if_neg hl]
set_option maxHeartbeats 8000000 in
theorem decode_walk (A0 : Option Addr) (c0 : Nat) (l : List Int) (w : World) (hr : Kd.C (Kd.int .u8) w A0 l.length l) (hc : l.length ≤ c0) (hl : l.length ≤ 100000) (hby : Bys l) {k p n wt mk lk : Int} {fl : Bool} {cy of_ : Int} {ag : List Int} {f1 f2 sq : Int} {bd : List Int} {e ea : Int} (hp : parseF l = (⟨k, p, n, wt, mk, lk, fl, cy, of_, ag, f1, f2, sq, bd⟩, e, ea)) :
  Calls Tryz.prog 6 #[.slice A0 l.length c0] w fun e' w' => ∃ A9 c9 A13 c13, e' = .returned (.tuple #[.agg #[.int .i64 k, .int .i64 p, .int .i64 n, .int .i64 wt, .int .i64 mk, .int .i64 lk, .bool fl, .int .i64 cy, .int .i64 of_, .slice A9 ag.length c9, .int .i64 f1, .int .i64 f2, .int .i64 sq, .slice A13 bd.length c13], .int .i64 e]) ∧ (Kd.int .i64).R 3 w' w.heap.size (fun _ => True) (.slice A9 ag.length c9) ag ∧ (Kd.int .u8).R 5 w' w.heap.size (fun _ => True) (.slice A13 bd.length c13) bd ∧ Below w.heap.size w w' := by
 have hco := parse_code l
 rw [hp] at hco
 have HP := Aside0.mk (fun W hW => parse_walk A0 c0 l W (Kd.C_below hr hW) hc hl hby hp)
 have HCO := Aside0.mk hco
 clear hr hc hl hby hp hco
 go_enter Tryz.func6, Tryz.ntmps6
 go_wp2_with fail
 have HB := Aside0.mk (below_alloc (Below.refl w.heap.size w) (.cells #[.int .i64 0, .int .i64 0, .int .i64 0, .int .i64 0, .int .i64 0, .int .i64 0, .bool false, .int .i64 0, .int .i64 0, .slice none 0 0, .int .i64 0, .int .i64 0, .int .i64 0, .slice none 0 0] 26))
 have HZ : Aside0 ((w.alloc (.cells #[.int .i64 0, .int .i64 0, .int .i64 0, .int .i64 0, .int .i64 0, .int .i64 0, .bool false, .int .i64 0, .int .i64 0, .slice none 0 0, .int .i64 0, .int .i64 0, .int .i64 0, .slice none 0 0] 26)).heap[w.heap.size]? = some (.cells #[.int .i64 0, .int .i64 0, .int .i64 0, .int .i64 0, .int .i64 0, .int .i64 0, .bool false, .int .i64 0, .int .i64 0, .slice none 0 0, .int .i64 0, .int .i64 0, .int .i64 0, .slice none 0 0] 26 (0, 0))) := ⟨heap_alloc_new _ _⟩
 generalize w.alloc (.cells #[.int .i64 0, .int .i64 0, .int .i64 0, .int .i64 0, .int .i64 0, .int .i64 0, .bool false, .int .i64 0, .int .i64 0, .slice none 0 0, .int .i64 0, .int .i64 0, .int .i64 0, .slice none 0 0] 26) = wa at *
 obtain ⟨b2, hb2⟩ : ∃ b2, b2 = w.heap.size := ⟨_, rfl⟩
 rw [← hb2]
 rw [← hb2] at HZ
 have HB2 := Aside0.mk hb2
 clear hb2
 refine (HP.out wa HB.out).mono ?_
 rintro e' w1 ⟨A9, c9, A13, c13, ev, rfl, h9, h13, hE, hb⟩
 have H9 := Aside0.mk h9
 have H13 := Aside0.mk h13
 have HE := Aside0.mk hE
 have HB1 := Aside0.mk (below_step HB.out hb)
 have HZ1 := Aside0.mk ((hb.block b2 (blk_lt HZ.out)).trans HZ.out)
 have HSZ := Aside0.mk (blk_lt HZ.out)
 clear h9 h13 hE hb
 go_wp2_with fail
 have kb := below_alloc (Below.refl w1.heap.size w1) (.cells #[.int .i64 k, .int .i64 p, .int .i64 n, .int .i64 wt, .int .i64 mk, .int .i64 lk, .bool fl, .int .i64 cy, .int .i64 of_, .slice A9 ag.length c9, .int .i64 f1, .int .i64 f2, .int .i64 sq, .slice A13 bd.length c13] 26)
 have H92 := Aside0.mk (Kd.R_below H9.out kb)
 have H132 := Aside0.mk (Kd.R_below H13.out kb)
 have HE2 := Aside0.mk (HE.out.keep (fun i _ hi => kb.block i hi))
 have HB_ := Aside0.mk (below_step HB1.out kb)
 have HZ2 := Aside0.mk ((kb.block b2 (blk_lt HZ1.out)).trans HZ1.out)
 have HX : Aside0 ((w1.alloc (.cells #[.int .i64 k, .int .i64 p, .int .i64 n, .int .i64 wt, .int .i64 mk, .int .i64 lk, .bool fl, .int .i64 cy, .int .i64 of_, .slice A9 ag.length c9, .int .i64 f1, .int .i64 f2, .int .i64 sq, .slice A13 bd.length c13] 26)).heap[w1.heap.size]? = some (.cells #[.int .i64 k, .int .i64 p, .int .i64 n, .int .i64 wt, .int .i64 mk, .int .i64 lk, .bool fl, .int .i64 cy, .int .i64 of_, .slice A9 ag.length c9, .int .i64 f1, .int .i64 f2, .int .i64 sq, .slice A13 bd.length c13] 26 (0, 0))) := ⟨heap_alloc_new _ _⟩
 clear kb
 generalize w1.alloc (.cells #[.int .i64 k, .int .i64 p, .int .i64 n, .int .i64 wt, .int .i64 mk, .int .i64 lk, .bool fl, .int .i64 cy, .int .i64 of_, .slice A9 ag.length c9, .int .i64 f1, .int .i64 f2, .int .i64 sq, .slice A13 bd.length c13] 26) = w2 at *
 generalize w1.heap.size = b4 at *
 obtain ⟨xc0, xc1, xc2, xc3, xc4, xc5, xc6, xc7, xc8, xc9, xc10, xc11, xc12, xc13⟩ := cellsK14 HX.out
 have HE3 := Aside0.mk (HE2.out.keep (w1 := w2.drew) (fun _ _ _ => rfl))
 go_region_with (go_at_call 15; refine (number_walk _ HE3.out HCO.out).mono ?_; rintro e' w3 ⟨rfl, hb3⟩; have HB3 := Aside0.mk hb3; clear hb3; have HX3 := Aside0.mk ((HB3.out.block b4 (blk_lt HX.out)).trans HX.out); have HZ3 := Aside0.mk ((HB3.out.block b2 (blk_lt HZ2.out)).trans HZ2.out); have u0 : w3.cell? ⟨b4, 0, none⟩ = some (.int .i64 k) := (blk_cell HX3.out 0).trans rfl; have v0 : w3.cell? ⟨b2, 0, none⟩ = some (.int .i64 0) := (blk_cell HZ3.out 0).trans rfl; have y0 := blk_frozen HZ3.out 0; have u1 : w3.cell? ⟨b4, 1, none⟩ = some (.int .i64 p) := (blk_cell HX3.out 1).trans rfl; have v1 : w3.cell? ⟨b2, 1, none⟩ = some (.int .i64 0) := (blk_cell HZ3.out 1).trans rfl; have y1 := blk_frozen HZ3.out 1; have u2 : w3.cell? ⟨b4, 2, none⟩ = some (.int .i64 n) := (blk_cell HX3.out 2).trans rfl; have v2 : w3.cell? ⟨b2, 2, none⟩ = some (.int .i64 0) := (blk_cell HZ3.out 2).trans rfl; have y2 := blk_frozen HZ3.out 2; have u3 : w3.cell? ⟨b4, 3, none⟩ = some (.int .i64 wt) := (blk_cell HX3.out 3).trans rfl; have v3 : w3.cell? ⟨b2, 3, none⟩ = some (.int .i64 0) := (blk_cell HZ3.out 3).trans rfl; have y3 := blk_frozen HZ3.out 3; have u4 : w3.cell? ⟨b4, 4, none⟩ = some (.int .i64 mk) := (blk_cell HX3.out 4).trans rfl; have v4 : w3.cell? ⟨b2, 4, none⟩ = some (.int .i64 0) := (blk_cell HZ3.out 4).trans rfl; have y4 := blk_frozen HZ3.out 4; have u5 : w3.cell? ⟨b4, 5, none⟩ = some (.int .i64 lk) := (blk_cell HX3.out 5).trans rfl; have v5 : w3.cell? ⟨b2, 5, none⟩ = some (.int .i64 0) := (blk_cell HZ3.out 5).trans rfl; have y5 := blk_frozen HZ3.out 5; have u6 : w3.cell? ⟨b4, 6, none⟩ = some (.bool fl) := (blk_cell HX3.out 6).trans rfl; have v6 : w3.cell? ⟨b2, 6, none⟩ = some (.bool false) := (blk_cell HZ3.out 6).trans rfl; have y6 := blk_frozen HZ3.out 6; have u7 : w3.cell? ⟨b4, 7, none⟩ = some (.int .i64 cy) := (blk_cell HX3.out 7).trans rfl; have v7 : w3.cell? ⟨b2, 7, none⟩ = some (.int .i64 0) := (blk_cell HZ3.out 7).trans rfl; have y7 := blk_frozen HZ3.out 7; have u8 : w3.cell? ⟨b4, 8, none⟩ = some (.int .i64 of_) := (blk_cell HX3.out 8).trans rfl; have v8 : w3.cell? ⟨b2, 8, none⟩ = some (.int .i64 0) := (blk_cell HZ3.out 8).trans rfl; have y8 := blk_frozen HZ3.out 8; have u9 : w3.cell? ⟨b4, 9, none⟩ = some (.slice A9 ag.length c9) := (blk_cell HX3.out 9).trans rfl; have v9 : w3.cell? ⟨b2, 9, none⟩ = some (.slice none 0 0) := (blk_cell HZ3.out 9).trans rfl; have y9 := blk_frozen HZ3.out 9; have u10 : w3.cell? ⟨b4, 10, none⟩ = some (.int .i64 f1) := (blk_cell HX3.out 10).trans rfl; have v10 : w3.cell? ⟨b2, 10, none⟩ = some (.int .i64 0) := (blk_cell HZ3.out 10).trans rfl; have y10 := blk_frozen HZ3.out 10; have u11 : w3.cell? ⟨b4, 11, none⟩ = some (.int .i64 f2) := (blk_cell HX3.out 11).trans rfl; have v11 : w3.cell? ⟨b2, 11, none⟩ = some (.int .i64 0) := (blk_cell HZ3.out 11).trans rfl; have y11 := blk_frozen HZ3.out 11; have u12 : w3.cell? ⟨b4, 12, none⟩ = some (.int .i64 sq) := (blk_cell HX3.out 12).trans rfl; have v12 : w3.cell? ⟨b2, 12, none⟩ = some (.int .i64 0) := (blk_cell HZ3.out 12).trans rfl; have y12 := blk_frozen HZ3.out 12; have u13 : w3.cell? ⟨b4, 13, none⟩ = some (.slice A13 bd.length c13) := (blk_cell HX3.out 13).trans rfl; have v13 : w3.cell? ⟨b2, 13, none⟩ = some (.slice none 0 0) := (blk_cell HZ3.out 13).trans rfl; have y13 := blk_frozen HZ3.out 13; skip)
 all_goals
  have hbb : ∀ q, wa.heap.size ≤ q → q ≠ b2 := fun q hq => by have := HSZ.out; omega
  have HBF : Below w.heap.size w ((((((((((((((w3.setCell ⟨b2, 0, none⟩ (.int .i64 k)).setCell ⟨b2, 1, none⟩ (.int .i64 p)).setCell ⟨b2, 2, none⟩ (.int .i64 n)).setCell ⟨b2, 3, none⟩ (.int .i64 wt)).setCell ⟨b2, 4, none⟩ (.int .i64 mk)).setCell ⟨b2, 5, none⟩ (.int .i64 lk)).setCell ⟨b2, 6, none⟩ (.bool fl)).setCell ⟨b2, 7, none⟩ (.int .i64 cy)).setCell ⟨b2, 8, none⟩ (.int .i64 of_)).setCell ⟨b2, 9, none⟩ (.slice A9 ag.length c9)).setCell ⟨b2, 10, none⟩ (.int .i64 f1)).setCell ⟨b2, 11, none⟩ (.int .i64 f2)).setCell ⟨b2, 12, none⟩ (.int .i64 sq)).setCell ⟨b2, 13, none⟩ (.slice A13 bd.length c13)) := below_set14 (below_step HB_.out (drew_below HB3.out)) (by have := HB2.out; omega) _ _ _ _ _ _ _ _ _ _ _ _ _ _
  have HBK : ((((((((((((((w3.setCell ⟨b2, 0, none⟩ (.int .i64 k)).setCell ⟨b2, 1, none⟩ (.int .i64 p)).setCell ⟨b2, 2, none⟩ (.int .i64 n)).setCell ⟨b2, 3, none⟩ (.int .i64 wt)).setCell ⟨b2, 4, none⟩ (.int .i64 mk)).setCell ⟨b2, 5, none⟩ (.int .i64 lk)).setCell ⟨b2, 6, none⟩ (.bool fl)).setCell ⟨b2, 7, none⟩ (.int .i64 cy)).setCell ⟨b2, 8, none⟩ (.int .i64 of_)).setCell ⟨b2, 9, none⟩ (.slice A9 ag.length c9)).setCell ⟨b2, 10, none⟩ (.int .i64 f1)).setCell ⟨b2, 11, none⟩ (.int .i64 f2)).setCell ⟨b2, 12, none⟩ (.int .i64 sq)).setCell ⟨b2, 13, none⟩ (.slice A13 bd.length c13)).heap[b2]? = some (.cells #[.int .i64 k, .int .i64 p, .int .i64 n, .int .i64 wt, .int .i64 mk, .int .i64 lk, .bool fl, .int .i64 cy, .int .i64 of_, .slice A9 ag.length c9, .int .i64 f1, .int .i64 f2, .int .i64 sq, .slice A13 bd.length c13] 26 (0, 0)) := blk_set14 HZ3.out _ _ _ _ _ _ _ _ _ _ _ _ _ _
  have h0 := Kd.R_mono (ok' := fun q => wa.heap.size ≤ q) (Kd.R_bound (Kd.R_below H92.out (drew_below HB3.out))) (fun q hq => hq.2.1)
  have h1 := Kd.R_mono (ok' := fun q => wa.heap.size ≤ q) (Kd.R_bound (Kd.R_below H132.out (drew_below HB3.out))) (fun q hq => hq.2.1)
  have HR9 : (Kd.int .i64).R 3 ((((((((((((((w3.setCell ⟨b2, 0, none⟩ (.int .i64 k)).setCell ⟨b2, 1, none⟩ (.int .i64 p)).setCell ⟨b2, 2, none⟩ (.int .i64 n)).setCell ⟨b2, 3, none⟩ (.int .i64 wt)).setCell ⟨b2, 4, none⟩ (.int .i64 mk)).setCell ⟨b2, 5, none⟩ (.int .i64 lk)).setCell ⟨b2, 6, none⟩ (.bool fl)).setCell ⟨b2, 7, none⟩ (.int .i64 cy)).setCell ⟨b2, 8, none⟩ (.int .i64 of_)).setCell ⟨b2, 9, none⟩ (.slice A9 ag.length c9)).setCell ⟨b2, 10, none⟩ (.int .i64 f1)).setCell ⟨b2, 11, none⟩ (.int .i64 f2)).setCell ⟨b2, 12, none⟩ (.int .i64 sq)).setCell ⟨b2, 13, none⟩ (.slice A13 bd.length c13)) w.heap.size (fun _ => True) (.slice A9 ag.length c9) ag := Kd.R_lower (Kd.R_mono (ok := fun q => wa.heap.size ≤ q) (R_set14 h0 hbb _ _ _ _ _ _ _ _ _ _ _ _ _ _) (fun _ _ => trivial)) HB.out.size
  have HR13 : (Kd.int .u8).R 5 ((((((((((((((w3.setCell ⟨b2, 0, none⟩ (.int .i64 k)).setCell ⟨b2, 1, none⟩ (.int .i64 p)).setCell ⟨b2, 2, none⟩ (.int .i64 n)).setCell ⟨b2, 3, none⟩ (.int .i64 wt)).setCell ⟨b2, 4, none⟩ (.int .i64 mk)).setCell ⟨b2, 5, none⟩ (.int .i64 lk)).setCell ⟨b2, 6, none⟩ (.bool fl)).setCell ⟨b2, 7, none⟩ (.int .i64 cy)).setCell ⟨b2, 8, none⟩ (.int .i64 of_)).setCell ⟨b2, 9, none⟩ (.slice A9 ag.length c9)).setCell ⟨b2, 10, none⟩ (.int .i64 f1)).setCell ⟨b2, 11, none⟩ (.int .i64 f2)).setCell ⟨b2, 12, none⟩ (.int .i64 sq)).setCell ⟨b2, 13, none⟩ (.slice A13 bd.length c13)) w.heap.size (fun _ => True) (.slice A13 bd.length c13) bd := Kd.R_lower (Kd.R_mono (ok := fun q => wa.heap.size ≤ q) (R_set14 h1 hbb _ _ _ _ _ _ _ _ _ _ _ _ _ _) (fun _ _ => trivial)) HB.out.size
  generalize ((((((((((((((w3.setCell ⟨b2, 0, none⟩ (.int .i64 k)).setCell ⟨b2, 1, none⟩ (.int .i64 p)).setCell ⟨b2, 2, none⟩ (.int .i64 n)).setCell ⟨b2, 3, none⟩ (.int .i64 wt)).setCell ⟨b2, 4, none⟩ (.int .i64 mk)).setCell ⟨b2, 5, none⟩ (.int .i64 lk)).setCell ⟨b2, 6, none⟩ (.bool fl)).setCell ⟨b2, 7, none⟩ (.int .i64 cy)).setCell ⟨b2, 8, none⟩ (.int .i64 of_)).setCell ⟨b2, 9, none⟩ (.slice A9 ag.length c9)).setCell ⟨b2, 10, none⟩ (.int .i64 f1)).setCell ⟨b2, 11, none⟩ (.int .i64 f2)).setCell ⟨b2, 12, none⟩ (.int .i64 sq)).setCell ⟨b2, 13, none⟩ (.slice A13 bd.length c13)) = wz at HBF HBK HR9 HR13 ⊢
  clear h0 h1 hbb
  go_wp2
  refine bodyPost_ret (results_ct rfl _ _ b2 26 #[.int .i64 k, .int .i64 p, .int .i64 n, .int .i64 wt, .int .i64 mk, .int .i64 lk, .bool fl, .int .i64 cy, .int .i64 of_, .slice A9 ag.length c9, .int .i64 f1, .int .i64 f2, .int .i64 sq, .slice A13 bd.length c13] (0, 0) _ rfl HBK Tryz.underlying26 rfl (by kernel_rfl)) rfl ?_
  exact ⟨_, _, _, _, rfl, HR9, HR13, HBF⟩
def Gv (w : World) : Prop := w.cell? ⟨0, 0, none⟩ = some (.iface 120 (.agg #[.pointer (some ⟨1, 43, none⟩)]))
theorem Gv.pos {w : World} (h : Gv w) : 0 < w.heap.size := by
 rcases Nat.eq_zero_or_pos w.heap.size with h0 | h0
 ·unfold Gv at h; simp [World.cell?, h0] at h
 ·exact h0
theorem Gv.below {w w1 : World} (h : Gv w) (k : Below w.heap.size w w1) : Gv w1 := pw_cell_below k h
set_option maxHeartbeats 8000000 in
theorem why_walk (A0 : Option Addr) (c0 : Nat) (l : List Int) (w : World) (hr : Kd.C (Kd.int .u8) w A0 l.length l) (hc : l.length ≤ c0) (hl : l.length ≤ 100000) (hby : Bys l) {k p n wt mk lk : Int} {fl : Bool} {cy of_ : Int} {ag : List Int} {f1 f2 sq : Int} {bd : List Int} {e ea : Int} (hp : parseF l = (⟨k, p, n, wt, mk, lk, fl, cy, of_, ag, f1, f2, sq, bd⟩, e, ea)) (hG : Gv w) :
  Calls Tryz.prog 8 #[.slice A0 l.length c0] w fun e' w' => e' = .returned (.tuple #[.int .i64 e, .int .i64 ea]) ∧ Below w.heap.size w w' := by
 have hco := parse_code l
 have hno := parse_none l
 rw [hp] at hco hno
 have HP := Aside0.mk (parse_walk A0 c0 l w hr hc hl hby hp)
 have HCO := Aside0.mk hco
 have HNO : Aside0 (e = 0 → ea = 0) := ⟨hno⟩
 have HG := Aside0.mk hG
 clear hr hc hl hby hp hco hno hG
 by_cases he : e = 0
 ·have hea := HNO.out he
  subst he
  subst hea
  go_enter Tryz.func8, Tryz.ntmps8
  go_wp2_with fail
  refine HP.out.mono ?_
  rintro e' w1 ⟨A9, c9, A13, c13, ev, rfl, h9, h13, hE, hb⟩
  have hev : ev = .nilIface := by
   rcases hE with ⟨_, q⟩ | ⟨q, _⟩
   ·exact q
   ·exact absurd rfl q
  subst hev
  have HB1 := Aside0.mk hb
  clear hE hb h9 h13
  go_wp2_with fail
  refine (as_nil _ _).mono ?_
  rintro e' w2 ⟨rfl, rfl⟩
  go_wp2_with fail
  go_ret2
  exact ⟨rfl, below_alloc (below_alloc HB1.out _) _⟩
 ·have HE0 := Aside0.mk he
  clear he
  go_enter Tryz.func8, Tryz.ntmps8
  go_wp2_with fail
  refine HP.out.mono ?_
  rintro e' w1 ⟨A9, c9, A13, c13, ev, rfl, h9, h13, hE, hb⟩
  obtain ⟨q, hq, rfl, hqb⟩ : ∃ q, w.heap.size ≤ q ∧ ev = .iface 49 (.pointer (some ⟨q, 0, none⟩)) ∧ w1.heap[q]? = some (.cells #[.int .i64 ea, .iface 66 (.int .i64 e)] 53 (0, 0)) := by
   rcases hE with ⟨k, _⟩ | ⟨_, q, hq, hv, hb⟩
   ·exact absurd k HE0.out
   ·exact ⟨q, hq, hv, hb⟩
  have HB1 := Aside0.mk hb
  have HQ := Aside0.mk hqb
  clear hE hb h9 h13 hq hqb
  go_wp2_with fail
  have kb : Below w1.heap.size w1 ((w1.alloc (.cells #[.int .i64 k, .int .i64 p, .int .i64 n, .int .i64 wt, .int .i64 mk, .int .i64 lk, .bool fl, .int .i64 cy, .int .i64 of_, .slice A9 ag.length c9, .int .i64 f1, .int .i64 f2, .int .i64 sq, .slice A13 bd.length c13] 26)).alloc (.cells #[.pointer none] 49)) := below_alloc (below_alloc (Below.refl w1.heap.size w1) _) _
  have HB2 := Aside0.mk (below_step HB1.out kb)
  have HQ2 := Aside0.mk ((kb.block q (blk_lt HQ.out)).trans HQ.out)
  have HT : Aside0 (((w1.alloc (.cells #[.int .i64 k, .int .i64 p, .int .i64 n, .int .i64 wt, .int .i64 mk, .int .i64 lk, .bool fl, .int .i64 cy, .int .i64 of_, .slice A9 ag.length c9, .int .i64 f1, .int .i64 f2, .int .i64 sq, .slice A13 bd.length c13] 26)).alloc (.cells #[.pointer none] 49)).heap[w1.heap.size + 1]? = some (.cells #[.pointer none] 49 (0, 0))) := ⟨by have := heap_alloc_new (w1.alloc (.cells #[.int .i64 k, .int .i64 p, .int .i64 n, .int .i64 wt, .int .i64 mk, .int .i64 lk, .bool fl, .int .i64 cy, .int .i64 of_, .slice A9 ag.length c9, .int .i64 f1, .int .i64 f2, .int .i64 sq, .slice A13 bd.length c13] 26)) (.cells #[.pointer none] 49); simpa using this⟩
  have HQT := Aside0.mk (show q < w1.heap.size + 1 from Nat.lt_succ_of_lt (blk_lt HQ.out))
  have HWT := Aside0.mk (show w.heap.size ≤ w1.heap.size + 1 from Nat.le_succ_of_le HB1.out.size)
  clear kb
  generalize (w1.alloc (.cells #[.int .i64 k, .int .i64 p, .int .i64 n, .int .i64 wt, .int .i64 mk, .int .i64 lk, .bool fl, .int .i64 cy, .int .i64 of_, .slice A9 ag.length c9, .int .i64 f1, .int .i64 f2, .int .i64 sq, .slice A13 bd.length c13] 26)).alloc (.cells #[.pointer none] 49) = w2 at *
  generalize w1.heap.size + 1 = b6 at *
  refine (as_hit ⟨q, 0, none⟩ ⟨b6, 0, none⟩ (.pointer none) w2 (HG.out.below HB2.out) ((blk_cell HT.out 0).trans rfl) (blk_frozen HT.out 0)).mono ?_
  rintro e' w3 ⟨rfl, hw3⟩
  have k3 : Below b6 w2 w3 := by
   rw [hw3]
   exact (((((Below.refl b6 w2).alloc (Nat.le_of_lt (blk_lt HT.out)) _).alloc (Nat.le_trans (Nat.le_of_lt (blk_lt HT.out)) (by simp)) _).alloc (Nat.le_trans (Nat.le_of_lt (blk_lt HT.out)) (by simp; omega)) _).alloc (Nat.le_trans (Nat.le_of_lt (blk_lt HT.out)) (by simp; omega)) _).setCell (p := ⟨b6, 0, none⟩) (Nat.le_refl _) _
  have h6 : w3.heap[b6]? = some (.cells #[.pointer (some ⟨q, 0, none⟩)] 49 (0, 0)) := by
   rw [hw3]
   refine blk_put (cs := #[.pointer none]) ?_ 0 _ rfl
   have hl := blk_lt HT.out
   rw [Below.heap_alloc _ _ _ (by simp; omega), Below.heap_alloc _ _ _ (by simp; omega), Below.heap_alloc _ _ _ (by simp; omega), Below.heap_alloc _ _ _ hl]
   exact HT.out
  have HB3 := Aside0.mk (HB2.out.trans (k3.mono HWT.out))
  have HQ3 := Aside0.mk ((k3.block q HQT.out).trans HQ2.out)
  have H63 := Aside0.mk h6
  clear hw3 k3 h6
  have hn := number_walk w3.drew (m := 0) (.inr ⟨HE0.out, q, Nat.zero_le _, rfl, HQ3.out⟩) HCO.out
  have HN := Aside0.mk hn
  clear hn
  go_wp2_with fail
  have t60 : w3.cell? ⟨b6, 0, none⟩ = some (.pointer (some ⟨q, 0, none⟩)) := (blk_cell H63.out 0).trans rfl
  have tq0 : w3.cell? ⟨q, 0, none⟩ = some (.int .i64 ea) := (blk_cell HQ3.out 0).trans rfl
  go_region_with (go_at_call 15; refine HN.out.mono ?_; rintro e' w4 ⟨rfl, hb4⟩; have HB4 := Aside0.mk hb4; clear hb4; have u60 : w4.cell? ⟨b6, 0, none⟩ = some (.pointer (some ⟨q, 0, none⟩)) := (blk_cell ((HB4.out.block b6 (blk_lt H63.out)).trans H63.out) 0).trans rfl; have uq0 : w4.cell? ⟨q, 0, none⟩ = some (.int .i64 ea) := (blk_cell ((HB4.out.block q (blk_lt HQ3.out)).trans HQ3.out) 0).trans rfl)
  all_goals
   go_wp2
   go_ret2
   exact ⟨rfl, below_step HB3.out (drew_below HB4.out)⟩
end Go.Proofs.YtaaifdclojkdmaaGreatDoor.MFr
