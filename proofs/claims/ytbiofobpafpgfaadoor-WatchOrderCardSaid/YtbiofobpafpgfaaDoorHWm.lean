/- watch.Order: a map of the last number of each sender, carried through the list. -/
import Derived.Test.YtbiofobpafpgfaaDoorMWox0
import Derived.Maps.OwnOps
import Derived.Maps.OwnSet
import Derived.Maps.Views
set_option linter.unusedVariables false
set_option linter.unusedSimpArgs false
set_option maxRecDepth 100000
namespace Go.Proofs.YtbiofobpafpgfaaDoor.MWo
open Go.RowKit Go.Maps Go.Proofs.YtbiofobpafpgfaaDoorW.PrintWords Go.Proofs.YtbiofobpafpgfaaDoorW.PrintLast Go.Proofs.YtbiofobpafpgfaaDoorW.PrintMore
theorem keyI : Keyed Tryd.prog 3 := int_keyed Tryd.underlying3
theorem zeroL (w : World) : (zeroValue 2).run Tryd.prog w = .ok (.int .i64 0) w := by kernel_rfl
/-- Block b is a map from numbers to numbers, of at most n entries: what each number leads to. -/
def Mp (w : World) (b n : Nat) (g : Int → Int) : Prop :=
  ∃ D : DataW Unit, w.ownsMap Tryd.prog 3 (plainElem Tryd.prog 2) b n D ∧ ∀ q, (Lit.int .i64 q).wf = true → D.atKey (.int .i64 q) (.lit (.int .i64 0)) = .lit (.int .i64 (g q))
def upd (g : Int → Int) (k v : Int) : Int → Int := fun q => if q = k then v else g q
theorem Mp.made (w : World) : Mp (w.alloc (.map #[] 0)) w.heap.size 0 (fun _ => 0) := ⟨.map [], World.ownsMap_made _ _ _ _, fun _ _ => rfl⟩
theorem Mp.look {w : World} {b n : Nat} {g : Int → Int} (h : Mp w b n g) {q : Int} (hq : (Lit.int .i64 q).wf = true) :
    (Instr.lookup 54 (.map (some b)) (.int .i64 q) false).run Tryd.prog w = .ok (.int .i64 (g q)) w := by
  obtain ⟨D, hD, hg⟩ := h
  obtain ⟨c, hrun, hat, _⟩ := hD.lookup_int keyI Tryd.underlying54 Tryd.underlying2 (zeroL _) (keyOf_int_mk Tryd.underlying3 hq)
  have := hat.symm.trans (hg q hq)
  injection this with e
  injection e with _ e2
  rw [hrun, e2]
theorem Mp.put {w : World} {b n : Nat} {g : Int → Int} (h : Mp w b n g) (hn : n < maxLen) {q v : Int} (hq : (Lit.int .i64 q).wf = true) (hv : (Lit.int .i64 v).wf = true) :
    ∃ w', (Instr.mapUpdate 54 (.map (some b)) (.int .i64 q) (.int .i64 v)).run Tryd.prog w = .ok () w' ∧ Mp w' b (n + 1) (upd g q v) ∧ w.grownBy w' (some b) := by
  obtain ⟨D, hD, hg⟩ := h
  obtain ⟨w', hrun, h1, h2⟩ := hD.update keyI Tryd.underlying54 hn (keyOf_int_mk Tryd.underlying3 hq) (plainElem_int (H := Unit) Tryd.underlying2 hv)
  refine ⟨w', hrun, ⟨_, h1, fun k hk => ?_⟩, h2⟩
  unfold upd
  by_cases e : k = q
  · subst e
    rw [if_pos rfl]
    exact atKey_put_same hD.isMap (show WideAt.IsKeyLit (.int .i64 k) from trivial) _ _
  · rw [if_neg e, atKey_put_other (by intro h; injection h with _ h; exact e h)]
    exact hg k hk
theorem Mp.grown {w w1 : World} {b n : Nat} {g : Int → Int} {row : Option Nat} (h : Mp w b n g) (hg : w.grownBy w1 row) (hne : some b ≠ row) : Mp w1 b n g := by
  obtain ⟨D, hD, h2⟩ := h
  exact ⟨D, hD.kept hg hne, h2⟩
theorem Mp.lt {w : World} {b n : Nat} {g : Int → Int} (h : Mp w b n g) : b < w.heap.size := by
  obtain ⟨D, hD, _⟩ := h
  exact hD.lt
/-- Messages in order, with their gaps: g: each sender's last number. -/
def ordM : (Int → Int) → List S52 → Bool
  | _, [] => true
  | g, x :: t => if x.f1 ≤ g x.f0 then false else if (x.f2 != (wrap64 (x.f1 - 1) != g x.f0)) = true then false else ordM (upd g x.f0 x.f1) t
/-- A message's cells; where its bytes lie is not asked. -/
def lgk : Kd S52 where
  sz := 4
  E := []
  K := fun _ x cs => ∃ A n c, cs = [.int .i64 x.f0, .int .i64 x.f1, .bool x.f2, .slice A n c]
  M := fun _ _ _ x cs => ∃ A n c, cs = [.int .i64 x.f0, .int .i64 x.f1, .bool x.f2, .slice A n c]
  K_len := by rintro w x cs ⟨_, _, _, rfl⟩; rfl
  K_one := by rintro w x cs ⟨_, _, _, rfl⟩ u hu; simp at hu; rcases hu with rfl | rfl | rfl | rfl <;> rfl
  K_below := fun _ h => h
  K_of_M := fun h => h
  M_mono := fun _ h => h
  M_bound := fun h => h
  M_move := fun _ h => h
  M_lower := fun _ h => h
theorem lgk_of {w : World} {A : Option Addr} {n : Nat} {l : List S52} (h : Kd.C k52 w A n l) : Kd.C lgk w A n l :=
  ReadsRow.imp_ h (Below.refl _ _) (fun _ _ hp => by obtain ⟨A3, c3, e, _, _⟩ := k52_open hp; exact ⟨A3, _, c3, e⟩)
theorem at_lgk {w : World} {A : Option Addr} {n : Nat} {xs : List S52} (h : Kd.C lgk w A n xs) (i : Nat) (h1 : i < n) : ∃ ad A3 n3 c3, A = some ad ∧ w.cell? (ad.add (i * 4)) = some (.int .i64 (rd_T52 xs i).f0) ∧ w.cell? ⟨(ad.add (i * 4)).block, (ad.add (i * 4)).off + 1, none⟩ = some (.int .i64 (rd_T52 xs i).f1) ∧ w.cell? ⟨(ad.add (i * 4)).block, (ad.add (i * 4)).off + 2, none⟩ = some (.bool (rd_T52 xs i).f2) ∧ w.cell? ⟨(ad.add (i * 4)).block, (ad.add (i * 4)).off + 3, none⟩ = some (.slice A3 n3 c3) := by
  obtain ⟨ad, c, e, _, hK, hc0⟩ := Kd.C_get h z52 (i : Int) (by omega) (by omega)
  simp only [Int.toNat_natCast] at hc0
  have hc : ∀ j u, c[j]? = some u → w.cell? (ad.add (i * 4 + j)) = some u := hc0
  obtain ⟨A3, n3, c3, rfl⟩ := hK
  exact ⟨ad, A3, n3, c3, e, hc 0 _ rfl, by rw [← add_field _ _ 1 (by omega)]; exact hc 1 _ rfl, by rw [← add_field _ _ 2 (by omega)]; exact hc 2 _ rfl, by rw [← add_field _ _ 3 (by omega)]; exact hc 3 _ rfl⟩
set_option maxHeartbeats 4000000 in
theorem order_walk (A : Option Addr) (c : Nat) (l : List S52) (w : World) (hr : Kd.C lgk w A l.length l) (hl : l.length ≤ 100000) (hwf : ∀ x ∈ l, (Lit.int .i64 x.f0).wf = true ∧ (Lit.int .i64 x.f1).wf = true) :
    Calls Tryd.prog 7 #[.slice A l.length c] w fun e w' => e = .returned (.bool (ordM (fun _ => 0) l)) ∧ Below w.heap.size w w' := by
  have HR := Aside0.mk hr
  have HW := Aside0.mk hwf
  have hmm := @run_makeMap Tryd.prog
  obtain ⟨Z, hZ⟩ : ∃ Z, ordM (fun _ => 0) l = Z := ⟨_, rfl⟩
  rw [hZ]
  have HZ := Aside0.mk hZ
  clear hr hwf hZ
  go_enter Tryd.func7, Tryd.ntmps7
  go_wp2_with fail
  go_loopg [9] (l.length + 1) (fun kq v9 wr => ∃ (k : Nat) (g : Int → Int), Aside0 (k ≤ l.length ∧ kq = l.length + 1 - k) ∧ v9 = .int .i64 k ∧ Aside0 (Mp wr w.heap.size k g) ∧ Aside0 (Below w.heap.size w wr) ∧ Aside0 (ordM g (l.drop k) = Z))
  case atStart => exact ⟨0, fun _ => 0, ⟨Nat.zero_le _, rfl⟩, rfl, ⟨Mp.made w⟩, ⟨below_alloc (Below.refl _ _) _⟩, HZ⟩
  case round =>
    clear HZ
    obtain ⟨k, g, HK, rfl, HM, HB, HZ⟩ := hrel
    by_cases hk : k < l.length
    · have hd : decide ((k : Int) < (l.length : Int)) = true := decide_eq_true (by omega)
      obtain ⟨ad, A3, n3, c3, e3, h0, h1, h2, h3⟩ := at_lgk (Kd.C_below HR.out HB.out) k hk
      cases e3
      have hx : rd_T52 l (k : Int) = l[k] := by simp [rd_T52, hk]
      have hdr : l.drop k = l[k] :: l.drop (k + 1) := by rw [List.drop_eq_getElem_cons hk]
      have hw := HW.out l[k] (List.getElem_mem hk)
      rw [hx] at h0 h1 h2
      have HZ2 : Aside0 (ordM g (l[k] :: l.drop (k + 1)) = Z) := ⟨by rw [← hdr]; exact HZ.out⟩
      have p0_ := eq_true (show (0 : Int) ≤ (k : Int) by omega)
      have p0c : (k : Int) < (l.length : Int) := by omega
      clear HZ hdr hx
      generalize l[k] = x at *
      go_upto_region 5 with fail
      have kb := below_alloc (Below.refl wr.heap.size wr) (.cells #[.int .i64 x.f0, .int .i64 x.f1, .bool x.f2, .slice A3 n3 c3] 52)
      have HX := Aside0.mk (heap_alloc_new wr (.cells #[.int .i64 x.f0, .int .i64 x.f1, .bool x.f2, .slice A3 n3 c3] 52))
      have HM1 := Aside0.mk (HM.out.grown (World.grownBy_alloc wr (.cells #[.int .i64 x.f0, .int .i64 x.f1, .bool x.f2, .slice A3 n3 c3] 52) none) (by simp))
      have HB1 := Aside0.mk (below_step HB.out kb)
      have HLM := Aside0.mk HM.out.lt
      clear kb h0 h1 h2 h3 HM HB
      generalize wr.alloc (.cells #[.int .i64 x.f0, .int .i64 x.f1, .bool x.f2, .slice A3 n3 c3] 52) = w1 at *
      generalize wr.heap.size = xb at *
      have c0 : w1.cell? ⟨xb, 0, none⟩ = some (.int .i64 x.f0) := (blk_cell HX.out 0).trans rfl
      have c1 : w1.cell? ⟨xb, 1, none⟩ = some (.int .i64 x.f1) := (blk_cell HX.out 1).trans rfl
      have c2 : w1.cell? ⟨xb, 2, none⟩ = some (.bool x.f2) := (blk_cell HX.out 2).trans rfl
      have hlk := HM1.out.look hw.1
      by_cases hle : x.f1 ≤ g x.f0
      · have hd1 : decide (x.f1 ≤ g x.f0) = true := decide_eq_true hle
        have HE : Aside0 (Z = false) := ⟨by rw [← HZ2.out]; exact if_pos hle⟩
        go_wp2_with fail
        go_ret
        rw [HE.out]
        exact ⟨rfl, HB1.out⟩
      · have hd1 : decide (x.f1 ≤ g x.f0) = false := decide_eq_false hle
        by_cases hg : (x.f2 != (wrap64 (x.f1 - 1) != g x.f0)) = true
        · have HE : Aside0 (Z = false) := ⟨by rw [← HZ2.out]; exact (if_neg hle).trans (if_pos hg)⟩
          have hg2 : (!x.f2 == (wrap64 (x.f1 - 1) != g x.f0)) = true := by rw [← hg]; cases x.f2 <;> cases (wrap64 (x.f1 - 1) != g x.f0) <;> rfl
          go_wp2_with fail
          go_ret
          rw [HE.out]
          exact ⟨rfl, HB1.out⟩
        · have hg2 : (!x.f2 == (wrap64 (x.f1 - 1) != g x.f0)) = false := by
            have hg1 : (x.f2 != (wrap64 (x.f1 - 1) != g x.f0)) = false := by simpa using hg
            rw [← hg1]; cases x.f2 <;> cases (wrap64 (x.f1 - 1) != g x.f0) <;> rfl
          have hg0 : (x.f2 != (wrap64 (x.f1 - 1) != g x.f0)) = false := by simpa using hg
          have HZ3 : Aside0 (ordM (upd g x.f0 x.f1) (l.drop (k + 1)) = Z) := ⟨by rw [← HZ2.out]; exact ((if_neg hle).trans (if_neg hg)).symm⟩
          obtain ⟨w2, hmu, hM2, hg2⟩ := HM1.out.put (by have := HK.out; unfold maxLen; omega) hw.1 hw.2
          have HM2 := Aside0.mk hM2
          have HB2 := Aside0.mk (HB1.out.grown hg2 HB1.out.size (fun j hj => by cases hj; exact Nat.le_refl _))
          clear hM2 hg2 HM1
          cases gk with
          | zero => exact absurd HK.out (by omega)
          | succ k1 =>
          go_wp2_with fail
          go_roundg k1
          case measure => have := HK.out; omega
          case rel => exact ⟨k + 1, _, ⟨by omega, by have := HK.out; omega⟩, rfl, HM2, HB2, HZ3⟩
    · have hd : decide ((k : Int) < (l.length : Int)) = false := decide_eq_false (by omega)
      have HE : Aside0 (Z = true) := ⟨by rw [← HZ.out, List.drop_eq_nil_iff.2 (by omega)]; rfl⟩
      go_wp2_with fail
      go_ret
      rw [HE.out]
      exact ⟨rfl, HB.out⟩
end Go.Proofs.YtbiofobpafpgfaaDoor.MWo
