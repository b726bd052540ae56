/- Plain facts on numbers and lists that the proofs over ages and wire share: rounds of loops, ages, masks. -/
import Derived.RowKit
import Derived.Test.YthkagdbabkkomaaWMore
namespace Go.Proofs.Ythkagdbabkkomaa.Plain
open Go.RowKit Go.Proofs.YthkagdbabkkomaaW.PrintWords Go.Proofs.YthkagdbabkkomaaW.PrintMore

theorem wf64 {a : Int} (h : (Lit.int .i64 a).wf = true) : -9223372036854775808 ≤ a ∧ a ≤ 9223372036854775807 := by
  simp [Lit.wf, IntKind.min, IntKind.max, IntKind.signed, IntKind.bits] at h; omega
theorem wfu8 {a : Int} (h : (Lit.int .u8 a).wf = true) : 0 ≤ a ∧ a ≤ 255 := by
  simp [Lit.wf, IntKind.min, IntKind.max, IntKind.signed, IntKind.bits] at h; omega
theorem w64 {x : Int} (h1 : -9223372036854775808 ≤ x) (h2 : x ≤ 9223372036854775807) : wrap64 x = x := by
  unfold wrap64; omega
theorem wu64 {x : Int} (h1 : 0 ≤ x) (h2 : x ≤ 18446744073709551615) : IntKind.u64.wrap x = x := by
  simp [IntKind.wrap, IntKind.signed, IntKind.bits]; omega

/-! ### with enough rounds -/
/-- With enough rounds g answers r. -/
def Evl {α : Type} (g : Nat → Option α) (r : α) : Prop := ∃ K, ∀ k, K ≤ k → g k = some r
theorem Evl.now {α : Type} {g : Nat → Option α} {r : α} (h : ∀ k, g k = some r) : Evl g r := ⟨0, fun k _ => h k⟩
theorem Evl.step {α : Type} {g h : Nat → Option α} {r : α} (e : ∀ k, g (k + 1) = h k) (hh : Evl h r) : Evl g r := by
  obtain ⟨K, hK⟩ := hh
  exact ⟨K + 1, fun k hk => by obtain ⟨m, rfl⟩ : ∃ m, k = m + 1 := ⟨k - 1, by omega⟩; rw [e]; exact hK m (by omega)⟩
theorem Evl.succ {α : Type} {g : Nat → Option α} {r : α} (hh : Evl (fun k => g (k + 1)) r) : Evl g r := Evl.step (fun _ => rfl) hh
theorem Evl.stop {α : Type} {g : Nat → Option α} {r : α} (e : ∀ k, g (k + 1) = some r) : Evl g r := Evl.step (h := fun _ => some r) e (Evl.now fun _ => rfl)
theorem Evl.congr {α : Type} {g h : Nat → Option α} {r : α} (e : ∀ k, g k = h k) (hh : Evl h r) : Evl g r := by
  have : g = h := funext e
  rw [this]; exact hh
theorem Evl.bind {α β : Type} {f : Nat → Option α} {g : Nat → α → Option β} {a : α} {r : β} (hf : Evl f a) (hg : Evl (fun k => g k a) r) : Evl (fun k => (f k).bind (g k)) r := by
  obtain ⟨K, hK⟩ := hf
  obtain ⟨M, hM⟩ := hg
  exact ⟨max K M, fun k hk => by simp only [hK k (by omega), Option.bind_some]; exact hM k (by omega)⟩
theorem Evl.some_ {α : Type} {g : Nat → Option α} {r : α} (h : Evl g r) : ∃ k, g k = some r := by
  obtain ⟨K, hK⟩ := h
  exact ⟨K, hK K (Nat.le_refl _)⟩
theorem Evl.mono {α : Type} {g : Nat → Option α} {r : α} (h : ∀ k, LeO (g k) (g (k + 1))) {n : Nat} (hn : g n = some r) : Evl g r :=
  ⟨n, fun _ hk => at_rounds h hk hn⟩
/-- After the fact that both answer, they answer together. -/
theorem Evl.and {α β : Type} {f : Nat → Option α} {g : Nat → Option β} {a : α} {b : β} (hf : Evl f a) (hg : Evl g b) : ∃ K, ∀ k, K ≤ k → f k = some a ∧ g k = some b := by
  obtain ⟨K, hK⟩ := hf
  obtain ⟨M, hM⟩ := hg
  exact ⟨max K M, fun k hk => ⟨hK k (by omega), hM k (by omega)⟩⟩

/-! ### ages -/
def bnd (g : Int) : Int := mn (mx g 0) 201
theorem bnd_bd (g : Int) : 0 ≤ bnd g ∧ bnd g ≤ 201 := by unfold bnd mn mx; split <;> split <;> omega
theorem bnd_id {g : Int} (h0 : 0 ≤ g) (h1 : g ≤ 201) : bnd g = g := by unfold bnd mn mx; split <;> split <;> omega
def att (l : List Int) (i g : Int) : Int := if i < 0 then g else if i ≥ (l.length : Int) then g else mn (mx (rd l i) 0) g
theorem att_bd {l : List Int} {i g : Int} (h : 0 ≤ g) : 0 ≤ att l i g ∧ att l i g ≤ g := by
  unfold att mn mx; split; omega; split; omega; split <;> split <;> omega
/-- The least of n and of what is heard, one up. -/
def inn (h : List (List Int)) (i g : Int) (n : Int) : Int := h.foldl (fun n l => mn n (att l i g + 1)) n
/-- A part's age a cycle later. -/
def nxv (l : List Int) (self : Int) (h : List (List Int)) (g : Int) (i : Int) : Int := if i = self then 0 else mn (inn h i g (att l i g + 1)) g
/-- The ages a cycle later, from part i on, m of them. -/
def nxs (l : List Int) (self : Int) (h : List (List Int)) (g : Int) : Nat → Int → List Int
  | 0, _ => []
  | m + 1, i => nxv l self h g i :: nxs l self h g m (i + 1)
def cut6 (l : List Int) : Nat := min l.length 6
def nx (l : List Int) (self : Int) (h : List (List Int)) (g : Int) : List Int := nxs l self h (bnd g) (cut6 l) 0
theorem nxs_length {l : List Int} {self : Int} {h : List (List Int)} {g : Int} : ∀ (m : Nat) (i : Int), (nxs l self h g m i).length = m
  | 0, _ => rfl
  | m + 1, i => by simp [nxs, nxs_length m (i + 1)]
theorem nxs_get {l : List Int} {self : Int} {h : List (List Int)} {g : Int} : ∀ (m : Nat) (i : Int) (j : Nat), j < m → (nxs l self h g m i).getD j 0 = nxv l self h g (i + j)
  | 0, _, j, hj => by omega
  | m + 1, i, 0, hj => by simp [nxs]
  | m + 1, i, j + 1, hj => by
    have := nxs_get (l := l) (self := self) (h := h) (g := g) m (i + 1) j (by omega)
    simp only [nxs, List.getD_cons_succ, this]
    congr 1; omega
theorem nx_length (l : List Int) (self : Int) (h : List (List Int)) (g : Int) : (nx l self h g).length = cut6 l := nxs_length _ _
theorem nx_get {l : List Int} {self : Int} {h : List (List Int)} {g : Int} {i : Int} (h0 : 0 ≤ i) (h1 : i < cut6 l) : rd (nx l self h g) i = nxv l self h (bnd g) i := by
  unfold rd nx
  rw [nxs_get _ _ _ (by omega)]
  congr 1; omega
theorem inn_bd {i g : Int} (hg : 0 ≤ g) : ∀ (h : List (List Int)) (n : Int), 0 ≤ n → n ≤ g + 1 → 0 ≤ inn h i g n ∧ inn h i g n ≤ n
  | [], n, h0, h1 => by simp [inn, h0]
  | l :: t, n, h0, h1 => by
    have ha := att_bd (l := l) (i := i) hg
    have hm : 0 ≤ mn n (att l i g + 1) ∧ mn n (att l i g + 1) ≤ n := by unfold mn; split <;> omega
    have := inn_bd (i := i) hg t (mn n (att l i g + 1)) hm.1 (by omega)
    show 0 ≤ inn t i g (mn n (att l i g + 1)) ∧ inn t i g (mn n (att l i g + 1)) ≤ n
    omega
theorem nxv_bd {l : List Int} {self : Int} {h : List (List Int)} {g i : Int} (hg : 0 ≤ g) : 0 ≤ nxv l self h g i ∧ nxv l self h g i ≤ g := by
  unfold nxv
  split
  · omega
  · have ha := att_bd (l := l) (i := i) hg
    have := inn_bd (i := i) hg h (att l i g + 1) (by omega) (by omega)
    unfold mn; split <;> omega
theorem drop_cons {α : Type} {l : List α} {z : α} {j : Nat} (h : j < l.length) : l.drop j = l.getD j z :: l.drop (j + 1) := by
  rw [List.drop_eq_getElem_cons h]
  congr 1
  simp [List.getD_eq_getElem?_getD, List.getElem?_eq_getElem h]

/-! ### masks -/
/-- The mask of parts that are there, from part i on, d of them, onto m. -/
def mk (l : List Int) (b : Int) : Nat → Int → Int → Int
  | 0, _, m => m
  | d + 1, i, m => mk l b d (i + 1) (if att l i b < b then Go.bits .or .i64 m (shl .i64 1 i) else m)
def alv (l : List Int) (g : Int) : Int := mk l (bnd g) (cut6 l) 0 0
/-- The least part of a mask, from part i on, d of them. -/
def rt (m : Int) : Nat → Int → Int
  | 0, _ => -1
  | d + 1, i => if Go.bits .and .i64 (shr .i64 m i) 1 = 1 then i else rt m d (i + 1)
def root (l : List Int) (g : Int) : Int := rt (alv l g) 6 0
/-- The ages of a part that knows of no other one, from part i on, d of them. -/
def frs (self g : Int) : Nat → Int → List Int
  | 0, _ => []
  | d + 1, i => (if i = self then 0 else bnd g) :: frs self g d (i + 1)
end Go.Proofs.Ythkagdbabkkomaa.Plain
