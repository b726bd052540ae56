/- Loops with enough rounds: what a printed function answers from some number of rounds on. -/
import Derived.Test.YtbiofobpafpgfaaDoorWMore
namespace Go.Proofs.YtbiofobpafpgfaaDoor.Evl
open Go.Proofs.YtbiofobpafpgfaaDoorW.PrintWords

/-! ### with enough rounds -/
/-- With enough rounds g answers r. -/
def Evl {α : Type} (g : Nat → Option α) (r : α) : Prop := ∃ K, ∀ k, K ≤ k → g k = some r
theorem Evl.now {α : Type} {g : Nat → Option α} {r : α} (h : ∀ k, g k = some r) : Evl g r := ⟨0, fun k _ => h k⟩
theorem Evl.step {α : Type} {g h : Nat → Option α} {r : α} (e : ∀ k, g (k + 1) = h k) (hh : Evl h r) : Evl g r := by
  obtain ⟨K, hK⟩ := hh
  exact ⟨K + 1, fun k hk => by obtain ⟨m, rfl⟩ : ∃ m, k = m + 1 := ⟨k - 1, by omega⟩; rw [e]; exact hK m (by omega)⟩
theorem Evl.succ {α : Type} {g : Nat → Option α} {r : α} (hh : Evl (fun k => g (k + 1)) r) : Evl g r := Evl.step (fun _ => rfl) hh
theorem Evl.stop {α : Type} {g : Nat → Option α} {r : α} (e : ∀ k, g (k + 1) = some r) : Evl g r := Evl.step (h := fun _ => some r) e (Evl.now fun _ => rfl)
theorem Evl.congr {α : Type} {g h : Nat → Option α} {r : α} (e : ∀ k, g k = h k) (hh : Evl h r) : Evl g r := by
  have : g = h := funext e
  rw [this]; exact hh
theorem Evl.bind {α β : Type} {f : Nat → Option α} {g : Nat → α → Option β} {a : α} {r : β} (hf : Evl f a) (hg : Evl (fun k => g k a) r) : Evl (fun k => (f k).bind (g k)) r := by
  obtain ⟨K, hK⟩ := hf
  obtain ⟨M, hM⟩ := hg
  exact ⟨max K M, fun k hk => by simp only [hK k (by omega), Option.bind_some]; exact hM k (by omega)⟩
theorem Evl.some_ {α : Type} {g : Nat → Option α} {r : α} (h : Evl g r) : ∃ k, g k = some r := by
  obtain ⟨K, hK⟩ := h
  exact ⟨K, hK K (Nat.le_refl _)⟩
theorem Evl.mono {α : Type} {g : Nat → Option α} {r : α} (h : ∀ k, LeO (g k) (g (k + 1))) {n : Nat} (hn : g n = some r) : Evl g r :=
  ⟨n, fun _ hk => at_rounds h hk hn⟩
/-- After the fact that both answer, they answer together. -/
theorem Evl.and {α β : Type} {f : Nat → Option α} {g : Nat → Option β} {a : α} {b : β} (hf : Evl f a) (hg : Evl g b) : ∃ K, ∀ k, K ≤ k → f k = some a ∧ g k = some b := by
  obtain ⟨K, hK⟩ := hf
  obtain ⟨M, hM⟩ := hg
  exact ⟨max K M, fun k hk => ⟨hK k (by omega), hM k (by omega)⟩⟩

end Go.Proofs.YtbiofobpafpgfaaDoor.Evl
