/- Texts of this claim, laid together by a program (wip/g/merge5.py): Hm. -/
import Derived.Test.YtbefbhghmommhaaGreatDoorZWd13
import Derived.Test.YtbefbhghmommhaaGreatDoorZWd17
import Derived.Test.YtbefbhghmommhaaGreatDoorZWd4
import Derived.Test.YtbefbhghmommhaaGreatDoorZWd18
set_option linter.unusedVariables false
set_option linter.unusedSimpArgs false
namespace Go.Proofs.YtbefbhghmommhaaGreatDoor.MWo
open Go.RowKit Go.Proofs.YtbefbhghmommhaaGreatDoorW.PrintWords Go.Proofs.YtbefbhghmommhaaGreatDoorW.PrintLast Go.Proofs.YtbefbhghmommhaaGreatDoorW.PrintMore
theorem info68 : (Tryz.prog.info? 68).map (fun i => (i.zero, i.size, i.bytes)) = some (some (.agg #[(.int .i64 0), (.int .i64 0)]), 2, 16) := by kernel_rfl
theorem info71 : (Tryz.prog.info? 71).map (fun i => (i.zero, i.size, i.bytes)) = some (some (.agg #[(.int .i64 0), (.int .i64 0), (.int .i64 0), (.int .i64 0), (.int .i64 0), (.int .i64 0)]), 6, 48) := by kernel_rfl
theorem and_low (n : Int) : Go.bits .and .i64 n 65535 = n % 65536 := by
 unfold Go.bits
 have e : ((BitVec.ofInt 64 n &&& BitVec.ofInt 64 65535).toNat : Int) = n % 65536 := by
  rw [BitVec.toNat_and, BitVec.toNat_ofInt, show (BitVec.ofInt 64 65535).toNat = 2 ^ 16 - 1 by decide, Nat.and_two_pow_sub_one_eq_mod]
  omega
 show IntKind.i64.wrap ((BitVec.ofInt 64 n &&& BitVec.ofInt 64 65535).toNat : Int) = n % 65536
 rw [e, IntKind.wrap_i64]
 omega
theorem and_mask {x : Int} (i : Nat) (hi : i ≤ 16) (h0 : 0 ≤ x) (h1 : x < 65536) : Go.bits .and .i64 x (2 ^ i - 1) = x % 2 ^ i :=
 bits_mask .i64 16 (by decide) (fun n a b => by rw [IntKind.wrap_i64]; omega) i hi x h0 (by omega)
def cnt (L : List S71) (p : Int) : Int := 2 * ((L.filter (fun l => l.f0 == p || l.f1 == p)).length : Int)
def grow (P : List S68) (a x : Int) : List S68 := P.set a.toNat ⟨if (rd_T68 P a).f0 < x + 6 then x + 6 else (rd_T68 P a).f0, (rd_T68 P a).f1⟩
def linked (s : List S68 × List S71) (a b : Int) : List S68 × List S71 :=
 (grow (grow s.1 a (cnt s.2 a)) b (cnt s.2 b), s.2 ++ [⟨a, b, ⟨cnt s.2 a, cnt s.2 a + 1⟩, ⟨cnt s.2 b, cnt s.2 b + 1⟩⟩])
def net (parts shape : Nat) : Nat → List S68 × List S71
 | 0 => (List.replicate parts ⟨5, 1⟩, [])
 | i + 1 => linked (net parts shape i) (if shape = 2 then 0 else (i : Int)) ((i : Int) + 1)
def madeNet (parts shape : Nat) : List S68 × List S71 := if shape = 1 ∧ 2 < parts then linked (net parts shape (parts - 1)) 0 ((parts : Int) - 1) else net parts shape (parts - 1)
theorem cnt_b (L : List S71) (p : Int) : 0 ≤ cnt L p ∧ cnt L p ≤ 2 * (L.length : Int) := by
 unfold cnt
 have := List.length_filter_le (fun l : S71 => l.f0 == p || l.f1 == p) L
 omega
theorem grow_len (P : List S68) (a x : Int) : (grow P a x).length = P.length := by unfold grow; simp
theorem net_len (parts shape : Nat) : ∀ i, (net parts shape i).1.length = parts ∧ (net parts shape i).2.length = i
 | 0 => by simp [net]
 | i + 1 => by
  have := net_len parts shape i
  simp only [net, linked, grow_len, List.length_append, List.length_singleton]
  omega
set_option maxHeartbeats 8000000 in
set_option maxRecDepth 10000 in
theorem made_walk (n m cyc dr lo ag li : Int) (q s : Nat) (w : World) (hm : m = n % 65536) (hq : (q : Int) = 1 + m % 4) (hs : (s : Int) = m / 4 % 4)
  (hcyc : cyc = 20000 + 1000 * (m / 16 % 8)) (hdr : dr = 20 * (m / 128 % 8)) (hlo : lo = m / 1024 % 2) (hag : ag = m / 2048 % 4) (hli : li = m / 8192 % 2)
  (e : Int) (he : dr5_Edge.f (madeNet q s).1 (madeNet q s).2 cyc 60 100 0 dr 300000 (((q : Int) - 1) * (lo + 1) + 1 + ag) lo ((q : Int) * (lo + 1) + 2 + li) ((q : Int) * (lo + 1) + 2) 12 = some e) (he0 : 0 ≤ e) (he1 : e ≤ 1000000)
  (hports : ∀ (P : List S68) (L : List S71) (a : Int) (a2 a3 a4 a5 a6 a7 a8 a9 a10 a11 a12 : Int), L.length ≤ 10 → dr26_ports.f 100 P L a2 a3 a4 a5 a6 a7 a8 a9 a10 a11 a12 a = some (cnt L a)) :
  Calls Tryz.prog 13 #[.int .i64 n] w fun e' w' => ∃ v0 v1, e' = .returned (.agg #[v0, v1, .int .i64 cyc, .int .i64 60, .int .i64 100, .int .i64 (3 * e), .int .i64 dr, .int .i64 300000, .int .i64 (((q : Int) - 1) * (lo + 1) + 1 + ag), .int .i64 lo, .int .i64 ((q : Int) * (lo + 1) + 2 + li), .int .i64 ((q : Int) * (lo + 1) + 2), .int .i64 12]) ∧
   Kd.R k68 68 w' w.heap.size (fun _ => True) v0 (madeNet q s).1 ∧ Kd.R k71 71 w' w.heap.size (fun _ => True) v1 (madeNet q s).2 ∧ Below w.heap.size w w' := by
 have HM := am (show 0 ≤ m ∧ m < 65536 by omega)
 have HQ := am (show 1 ≤ q ∧ q ≤ 4 by omega)
 have HSh := am (show s ≤ 3 by omega)
 have HLO := am (show 0 ≤ lo ∧ lo ≤ 1 by omega)
 have HAG := am (show 0 ≤ ag ∧ ag ≤ 3 by omega)
 have HLI := am (show 0 ≤ li ∧ li ≤ 1 by omega)
 have b0 : Go.bits .and .i64 n 65535 = m := by rw [and_low, hm]
 have b1 : Go.bits .and .i64 m 3 = (q : Int) - 1 := by have := and_mask (x := m) 2 (by decide) HM.out.1 HM.out.2; have e : ((2 : Int) ^ 2 - 1) = 3 := (by decide); rw [e] at this; rw [this]; omega
 have b2 : Go.bits .and .i64 (m / 4) 3 = (s : Int) := by have := and_mask (x := m / 4) 2 (by decide) (by omega) (by omega); have e : ((2 : Int) ^ 2 - 1) = 3 := (by decide); rw [e] at this; rw [this]; omega
 have b4 : Go.bits .and .i64 (m / 16) 7 = m / 16 % 8 := by have := and_mask (x := m / 16) 3 (by decide) (by omega) (by omega); have e : ((2 : Int) ^ 3 - 1) = 7 := (by decide); rw [e] at this; rw [this]; omega
 have b7 : Go.bits .and .i64 (m / 128) 7 = m / 128 % 8 := by have := and_mask (x := m / 128) 3 (by decide) (by omega) (by omega); have e : ((2 : Int) ^ 3 - 1) = 7 := (by decide); rw [e] at this; rw [this]; omega
 have b10 : Go.bits .and .i64 (m / 1024) 1 = lo := by have := and_mask (x := m / 1024) 1 (by decide) (by omega) (by omega); have e : ((2 : Int) ^ 1 - 1) = 1 := (by decide); rw [e] at this; rw [this]; omega
 have b11 : Go.bits .and .i64 (m / 2048) 3 = ag := by have := and_mask (x := m / 2048) 2 (by decide) (by omega) (by omega); have e : ((2 : Int) ^ 2 - 1) = 3 := (by decide); rw [e] at this; rw [this]; omega
 have b13 : Go.bits .and .i64 (m / 8192) 1 = li := by have := and_mask (x := m / 8192) 1 (by decide) (by omega) (by omega); have e : ((2 : Int) ^ 1 - 1) = 1 := (by decide); rw [e] at this; rw [this]; omega
 have w1 : wrap64 (1 + ((q : Int) - 1)) = q := by unfold wrap64; omega
 have w2 : wrap64 (1000 * (m / 16 % 8)) = 1000 * (m / 16 % 8) := by unfold wrap64; omega
 have w3 : wrap64 (20000 + 1000 * (m / 16 % 8)) = cyc := by rw [hcyc]; unfold wrap64; omega
 have w3' : 20000 + 1000 * (m / 16 % 8) = cyc := hcyc.symm
 have w4 : wrap64 (20 * (m / 128 % 8)) = dr := by rw [hdr]; unfold wrap64; omega
 have w4' : 20 * (m / 128 % 8) = dr := hdr.symm
 have HCY := am (show 20000 ≤ cyc ∧ cyc ≤ 27000 ∧ 0 ≤ dr ∧ dr ≤ 140 by omega)
 have HE := am he
 have HEB := am (And.intro he0 he1)
 have HPO := am hports
 clear hm hq hs hcyc hdr hlo hag hli he he0 he1 hports
 go_enter Tryz.func13, Tryz.ntmps13
 go_upto_region 5 with fail
 rw [w1]
 have HZ : Aside0 (((w.alloc (.cells #[.slice none 0 0, .slice none 0 0, .int .i64 0, .int .i64 0, .int .i64 0, .int .i64 0, .int .i64 0, .int .i64 0, .int .i64 0, .int .i64 0, .int .i64 0, .int .i64 0, .int .i64 0] 25)).alloc (.cells #[.slice none 0 0, .slice none 0 0, .int .i64 cyc, .int .i64 60, .int .i64 100, .int .i64 0, .int .i64 dr, .int .i64 300000, .int .i64 0, .int .i64 lo, .int .i64 0, .int .i64 0, .int .i64 12] 25)).heap[w.heap.size]? = some (.cells #[.slice none 0 0, .slice none 0 0, .int .i64 0, .int .i64 0, .int .i64 0, .int .i64 0, .int .i64 0, .int .i64 0, .int .i64 0, .int .i64 0, .int .i64 0, .int .i64 0, .int .i64 0] 25)) := ⟨by
  have hZ0 : (w.alloc (.cells #[.slice none 0 0, .slice none 0 0, .int .i64 0, .int .i64 0, .int .i64 0, .int .i64 0, .int .i64 0, .int .i64 0, .int .i64 0, .int .i64 0, .int .i64 0, .int .i64 0, .int .i64 0] 25)).heap[w.heap.size]? = some (.cells #[.slice none 0 0, .slice none 0 0, .int .i64 0, .int .i64 0, .int .i64 0, .int .i64 0, .int .i64 0, .int .i64 0, .int .i64 0, .int .i64 0, .int .i64 0, .int .i64 0, .int .i64 0] 25) := heap_alloc_new _ _
  exact ((below_alloc (Below.refl _ (w.alloc (.cells #[.slice none 0 0, .slice none 0 0, .int .i64 0, .int .i64 0, .int .i64 0, .int .i64 0, .int .i64 0, .int .i64 0, .int .i64 0, .int .i64 0, .int .i64 0, .int .i64 0, .int .i64 0] 25))) _).block _ (blk_lt hZ0)).trans hZ0⟩
 have HC : Aside0 (((w.alloc (.cells #[.slice none 0 0, .slice none 0 0, .int .i64 0, .int .i64 0, .int .i64 0, .int .i64 0, .int .i64 0, .int .i64 0, .int .i64 0, .int .i64 0, .int .i64 0, .int .i64 0, .int .i64 0] 25)).alloc (.cells #[.slice none 0 0, .slice none 0 0, .int .i64 cyc, .int .i64 60, .int .i64 100, .int .i64 0, .int .i64 dr, .int .i64 300000, .int .i64 0, .int .i64 lo, .int .i64 0, .int .i64 0, .int .i64 12] 25)).heap[w.heap.size + 1]? = some (.cells #[.slice none 0 0, .slice none 0 0, .int .i64 cyc, .int .i64 60, .int .i64 100, .int .i64 0, .int .i64 dr, .int .i64 300000, .int .i64 0, .int .i64 lo, .int .i64 0, .int .i64 0, .int .i64 12] 25)) := ⟨by have := heap_alloc_new (w.alloc (.cells #[.slice none 0 0, .slice none 0 0, .int .i64 0, .int .i64 0, .int .i64 0, .int .i64 0, .int .i64 0, .int .i64 0, .int .i64 0, .int .i64 0, .int .i64 0, .int .i64 0, .int .i64 0] 25)) (.cells #[.slice none 0 0, .slice none 0 0, .int .i64 cyc, .int .i64 60, .int .i64 100, .int .i64 0, .int .i64 dr, .int .i64 300000, .int .i64 0, .int .i64 lo, .int .i64 0, .int .i64 0, .int .i64 12] 25); simpa using this⟩
 have HB := am (below_alloc (below_alloc (Below.refl w.heap.size w) (Obj.cells #[.slice none 0 0, .slice none 0 0, .int .i64 0, .int .i64 0, .int .i64 0, .int .i64 0, .int .i64 0, .int .i64 0, .int .i64 0, .int .i64 0, .int .i64 0, .int .i64 0, .int .i64 0] 25)) (Obj.cells #[.slice none 0 0, .slice none 0 0, .int .i64 cyc, .int .i64 60, .int .i64 100, .int .i64 0, .int .i64 dr, .int .i64 300000, .int .i64 0, .int .i64 lo, .int .i64 0, .int .i64 0, .int .i64 12] 25))
 generalize (w.alloc (.cells #[.slice none 0 0, .slice none 0 0, .int .i64 0, .int .i64 0, .int .i64 0, .int .i64 0, .int .i64 0, .int .i64 0, .int .i64 0, .int .i64 0, .int .i64 0, .int .i64 0, .int .i64 0] 25)).alloc (.cells #[.slice none 0 0, .slice none 0 0, .int .i64 cyc, .int .i64 60, .int .i64 100, .int .i64 0, .int .i64 dr, .int .i64 300000, .int .i64 0, .int .i64 lo, .int .i64 0, .int .i64 0, .int .i64 12] 25) = wa at *
 obtain ⟨bc, hbc⟩ : ∃ bc, bc = w.heap.size + 1 := ⟨_, rfl⟩
 obtain ⟨bz, hbz⟩ : ∃ bz, bz = w.heap.size := ⟨_, rfl⟩
 rw [← hbc, ← hbz]
 rw [← hbc] at HC
 rw [← hbz] at HZ
 have HNE : Aside0 (bz ≠ bc ∧ w.heap.size ≤ bc ∧ w.heap.size ≤ bz) := ⟨by omega⟩
 clear hbc hbz b0 b1 b2 b4 b7 b10 w1 w2 w3 w3' w4 w4'
 go_wp2_with fail
 go_loopg [6] (q + 1) (fun kq v6 w' => ∃ (k : Nat) (vP : Value), v6 = .int .i64 k ∧ Aside0 (kq + k = q + 1 ∧ k ≤ q) ∧ Aside0 (Below w.heap.size w w') ∧ Aside0 (w'.heap[bc]? = some (.cells #[vP, .slice none 0 0, .int .i64 cyc, .int .i64 60, .int .i64 100, .int .i64 0, .int .i64 dr, .int .i64 300000, .int .i64 0, .int .i64 lo, .int .i64 0, .int .i64 0, .int .i64 12] 25)) ∧ Aside0 (w'.heap[bz]? = some (.cells #[.slice none 0 0, .slice none 0 0, .int .i64 0, .int .i64 0, .int .i64 0, .int .i64 0, .int .i64 0, .int .i64 0, .int .i64 0, .int .i64 0, .int .i64 0, .int .i64 0, .int .i64 0] 25)) ∧ Aside0 (Kd.R k68 68 w' w.heap.size (fun _ => True) vP (List.replicate k ⟨5, 1⟩)))
 case atStart => exact ⟨0, .slice none 0 0, rfl, ⟨by omega⟩, HB, HC, HZ, ⟨Kd.R_nil _ _ _ _ _⟩⟩
 case round =>
  clear HZ HC HB
  obtain ⟨k, vP, rfl, HK, HB, HC, HZ, HR⟩ := hrel
  by_cases hk : k < q
  ·have hlt : decide ((k : Int) < (q : Int)) = true := dT (by omega)
   have hw1 : wrap64 ((k : Int) + 1) = (k : Int) + 1 := by have := HQ.out; unfold wrap64; omega
   have c0 : wr.cell? ⟨bc, 0, none⟩ = some vP := (blk_cell HC.out 0).trans rfl
   cases gk with
   | zero => exact absurd HK.out (by omega)
   | succ k1 =>
   go_wp2_with (first | (refine Kd.R_append k68 (w0 := w) w.heap.size rfl (.tmp 37) (.tmp 39) 22 68 (.agg #[.int .i64 0, .int .i64 0]) 16 rfl Tryz.underlying22 info68 rfl (by decide) (by omega) vP (List.replicate k ⟨5, 1⟩) (⟨5, 1⟩ : S68) [.int .i64 5, .int .i64 1] (fun _ => True) (fun _ => False) rfl rfl ?aP (fun _ hk => hk.elim) ?aF ?aO ?aB ?aS ?aL ?_; (case aP => exact k68_mkM _ _ _ _); (case aB => exact HB.out); (case aF => exact (fun _ _ => trivial)); (case aO => exact HR.out); (case aS => exact HB.out.size); (case aL => rw [List.length_replicate]; have := HQ.out; omega); intro v1 w1 ho hb hg hat; obtain ⟨A1, c1', e1⟩ := Kd.R_slice ho; subst e1; have hlk : (List.replicate k (⟨5, 1⟩ : S68) ++ [(⟨5, 1⟩ : S68)]).length = k + 1 := (by simp); rw [hlk] at ho; have HC1 := am (blk_grown HC.out hg (Kd.R_ne HR.out HC.out (by decide))); have HZ1 := am (blk_grown HZ.out hg (Kd.R_ne HR.out HZ.out (by decide))); have c1 : w1.cell? ⟨bc, 0, none⟩ = some vP := (blk_cell HC1.out 0).trans rfl; have cf1 := blk_frozen HC1.out 0; have HO1 := am ho; have HB1 := am hb; clear c0 ho hb hg hat))
   go_roundg k1
   case measure => have := HK.out; omega
   case rel =>
    refine ⟨k + 1, _, (by first | (rw [hw1]; rfl) | rfl | (simp; done) | (simp [hw1]; done)), ⟨by have := HK.out; omega⟩, ⟨HB1.out.setCell HNE.out.2.1 _⟩, ⟨by simpa using blk_set HC1.out 0 (.slice A1 (k + 1) c1')⟩, ⟨(Below.heap_setCell _ _ _ bz HNE.out.1).trans HZ1.out⟩, ⟨?_⟩⟩
    rw [List.replicate_succ']
    exact Kd.R_mono (Kd.R_far (Kd.R_types HO1.out HC1.out (by decide)) (fun k hk => hk.2) _) (fun _ _ => trivial)
  ·have hkq : k = q := by have := HK.out; omega
   subst hkq
   have hlt : decide ((k : Int) < (k : Int)) = false := dF (by omega)
   have hgk : Aside0 True := ⟨trivial⟩
   obtain ⟨g, cP, hv, hBg, hPB⟩ := PB.of_R HR.out (by rw [List.length_replicate]; have := HQ.out; omega)
   subst hv
   have HPB := am hPB
   have HBg := am hBg
   clear hPB hBg
   go_wp2_with fail
   go_loopg [7, 8] k (fun kq v7 _ w' => ∃ (j : Nat) (cP c1 : Nat) (A1 : Option Addr) (P : List S68) (L : List S71), v7 = .int .i64 ((j : Int) + 1) ∧ Aside0 (kq + j = k ∧ j + 1 ≤ k) ∧ Aside0 (Below w.heap.size w w') ∧ Aside0 (w'.heap[bc]? = some (.cells #[.slice (some ⟨g, 0, none⟩) P.length cP, .slice A1 L.length c1, .int .i64 cyc, .int .i64 60, .int .i64 100, .int .i64 0, .int .i64 dr, .int .i64 300000, .int .i64 0, .int .i64 lo, .int .i64 0, .int .i64 0, .int .i64 12] 25)) ∧ Aside0 (w'.heap[bz]? = some (.cells #[.slice none 0 0, .slice none 0 0, .int .i64 0, .int .i64 0, .int .i64 0, .int .i64 0, .int .i64 0, .int .i64 0, .int .i64 0, .int .i64 0, .int .i64 0, .int .i64 0, .int .i64 0] 25)) ∧ Aside0 (PB w' g cP P) ∧ Aside0 (Kd.R k71 71 w' w.heap.size (fun _ => True) (.slice A1 L.length c1) L) ∧ Aside0 (net k s j = (P, L)))
   case atStart => exact ⟨0, cP, 0, none, List.replicate k ⟨5, 1⟩, [], rfl, ⟨by have := HQ.out; omega⟩, HB, HC, HZ, HPB, ⟨Kd.R_nil _ _ _ _ _⟩, ⟨rfl⟩⟩
   case round =>
    clear HZ HC HB HPB HR HK
    obtain ⟨j, cP, c1, A1, P, L, rfl, HK, HB, HC, HZ, HPB, HR, HN⟩ := hrel
    have HLen : Aside0 (P.length = k ∧ L.length = j) := ⟨by have := net_len k s j; rw [HN.out] at this; exact this⟩
    by_cases hj : j + 1 < k
    ·have hlt : decide ((j : Int) + 1 < (k : Int)) = true := dT (by omega)
     have hwj : wrap64 (j : Int) = j := by have := HQ.out; unfold wrap64; omega
     have hwj1 : wrap64 ((j : Int) + 1 - 1) = j := by have := HQ.out; unfold wrap64; omega
     have hwj2 : wrap64 ((j : Int) + 1 + 1) = (j : Int) + 1 + 1 := by have := HQ.out; unfold wrap64; omega
     cases gk with
     | zero => exact absurd HK.out (by omega)
     | succ k1 =>
     by_cases hs2 : s = 2
     ·have hse : ((s : Int) == 2) = true := by rw [hs2]; rfl
      go_upto_region 15 with fail
      have HBd := am (below_drew HB.out)
      have HCd : Aside0 (wr.drew.heap[bc]? = some (.cells #[.slice (some ⟨g, 0, none⟩) P.length cP, .slice A1 L.length c1, .int .i64 cyc, .int .i64 60, .int .i64 100, .int .i64 0, .int .i64 dr, .int .i64 300000, .int .i64 0, .int .i64 lo, .int .i64 0, .int .i64 0, .int .i64 12] 25)) := ⟨HC.out⟩
      have HZd : Aside0 (wr.drew.heap[bz]? = some (.cells #[.slice none 0 0, .slice none 0 0, .int .i64 0, .int .i64 0, .int .i64 0, .int .i64 0, .int .i64 0, .int .i64 0, .int .i64 0, .int .i64 0, .int .i64 0, .int .i64 0, .int .i64 0] 25)) := ⟨HZ.out⟩
      have HPd : Aside0 (PB wr.drew g cP P) := ⟨HPB.out⟩
      have HRd : Aside0 (Kd.R k71 71 wr.drew w.heap.size (fun _ => True) (.slice A1 L.length c1) L) := ⟨Kd.R_drewN HR.out 1⟩
      have fd : wr.drew.cell? ⟨bc, 1, none⟩ = some (.slice A1 L.length c1) := (blk_cell HCd.out 1).trans rfl
      have HGz : Aside0 (bz ≠ g ∧ bc ≠ g) := ⟨by
       obtain ⟨cur, h1, _⟩ := HPB.out
       refine ⟨?_, ?_⟩
       ·rintro rfl
        have h2 := HZ.out
        rw [h1] at h2
        injection h2 with h2
        injection h2 with _ h2 _
        exact absurd h2 (by decide)
       ·rintro rfl
        have h2 := HC.out
        rw [h1] at h2
        injection h2 with h2
        injection h2 with _ h2 _
        exact absurd h2 (by decide)⟩
      have hA0 : Aside0 (0 ≤ (0 : Int) ∧ (0 : Int) < (P.length : Int) ∧ 0 ≤ ((j : Int) + 1 : Int) ∧ ((j : Int) + 1 : Int) < (P.length : Int)) := ⟨by have := HLen.out; have := HQ.out; omega⟩
      refine start_ (n := 9) (S := fun w' => w'.cell? ⟨bc, 1, none⟩ = some (.slice A1 L.length c1)) (ds := [8]) #[false, false, false, false, false, false, false, false, false] (by kernel_rfl) rfl rfl (fd) (fun hHeld => ?_)
      generalize wr.drew = wd at HBd HCd HZd HPd HRd fd hHeld ⊢
      refine pu 0 51 ?_
      refine pu 2 53 ?_
      refine pu 3 54 ?_
      refine tk1 1 52 ?_
      refine on 4 55 (fun K hK => ?_)
      refine goes_ Tryz.func37 (by kernel_rfl) rfl #[.pointer (some ⟨bc, 0, none⟩), .int .i64 0, .int .i64 ((j : Int) + 1)] (by rfl) rfl rfl lm ?_
      with_reducible refine (joined_walk bc g cP c1 w.heap.size A1 P L cyc 60 100 0 dr 300000 0 lo 0 0 12 0 ((j : Int) + 1) (cnt L 0) (cnt L ((j : Int) + 1)) _ _ _ HCd.out HPd.out HRd.out HNE.out.2.1 HBg.out hA0.out.1 hA0.out.2.1 hA0.out.2.2.1 hA0.out.2.2.2 (HPO.out P L _ cyc 60 100 0 dr 300000 0 lo 0 0 12 (by have := HLen.out; have := HQ.out; omega)) (HPO.out P L _ cyc 60 100 0 dr 300000 0 lo 0 0 12 (by have := HLen.out; have := HQ.out; omega)) (cnt_b L _).1 (by have := (cnt_b L 0).2; have := HLen.out; have := HQ.out; omega) (cnt_b L _).1 (by have := (cnt_b L ((j : Int) + 1)).2; have := HLen.out; have := HQ.out; omega) rfl rfl).mono ?_
      rintro e w3 ⟨rfl, hC3, hP3, hL3, hb3, hF3⟩
      have HC3 := am hC3
      have HP3 := am hP3
      have HL3 := am hL3
      have HB3 := am (HBd.out.trans hb3)
      have HZ3 := am ((hF3 bz (blk_lt HZd.out) HGz.out.1).trans HZd.out)
      have f3 : w3.cell? ⟨bc, 1, none⟩ = some (.slice A1 L.length c1) := (blk_cell HC3.out 1).trans rfl
      clear hC3 hP3 hL3 hb3 hF3
      obtain ⟨curP, HPh', _⟩ := HP3.out
      have HPh := am HPh'
      clear HPh'
      refine ⟨_, rfl, ?_⟩
      refine hK.out _ _ (f3) (fun hHeld => ?_)
      clear hK K
      refine norm_ (a' := ?_) ?_ ?_
      rotate_left
      ·show Act.put _ (some 55) _ = _
       simp only [Act.put, sAa, sBb, sCc, i64_w, i32_w]
       rfl
      refine on 5 56 (fun K hK => ?_)
      refine value_ (w1 := ?_) (v := ?_) (by rfl) rfl ?_ ?_
      rotate_left 2
      ·go_simp
       constructor
       ·rfl
       ·rfl
      refine hK.out _ _ ((World.cell?_alloc_lt _ _ _ (World.block_lt_of_cell? _ _ f3)).trans f3) (fun hHeld => ?_)
      clear hK K
      refine norm_ (a' := ?_) ?_ ?_
      rotate_left
      ·show Act.put _ (some 56) _ = _
       simp only [Act.put, sAa, sBb, sCc, i64_w, i32_w]
       rfl
      refine on 6 57 (fun K hK => ?_)
      refine Kd.R_append_step k71 (w0 := w) w.heap.size ?aW (.tmp 52) (.tmp 56) 23 71 (.agg #[.int .i64 0, .int .i64 0, .int .i64 0, .int .i64 0, .int .i64 0, .int .i64 0]) 48 rfl Tryz.underlying23 info71 rfl (by decide) (by omega) (.slice A1 L.length c1) L (⟨0, (j : Int) + 1, ⟨(cnt L 0), (cnt L 0) + 1⟩, ⟨(cnt L ((j : Int) + 1)), (cnt L ((j : Int) + 1)) + 1⟩⟩ : S71) [.int .i64 0, .int .i64 ((j : Int) + 1), .int .i64 (cnt L 0), .int .i64 ((cnt L 0) + 1), .int .i64 (cnt L ((j : Int) + 1)), .int .i64 ((cnt L ((j : Int) + 1)) + 1)] (fun _ => True) (fun _ => False) rfl rfl ?aP (fun _ hk => hk.elim) ?aF ?aO ?aB ?aS ?aL ?_
      case aW => first | rfl | decide | simp [Region.wanted]
      case aP => exact k71_mkM _ _ _ _
      case aB => exact HB3.out
      case aF => exact (fun _ _ => trivial)
      case aO => exact HL3.out
      case aS => exact HB3.out.size
      case aL => have := HLen.out; have := HQ.out; omega
      intro v4 w4 ho hb hg hat
      have HC4 := am (blk_grown HC3.out hg (Kd.R_ne HL3.out HC3.out (by decide)))
      have HZ4 := am (blk_grown HZ3.out hg (Kd.R_ne HL3.out HZ3.out (by decide)))
      have HP4 := am (PB.keep HP3.out ((blk_grown HPh.out hg (Kd.R_ne HL3.out HPh.out (by decide))).trans HPh.out.symm))
      obtain ⟨A4, c4, e4⟩ := Kd.R_slice ho
      subst e4
      have HO4 := am ho
      have HB4 := am hb
      have f4 : w4.cell? ⟨bc, 1, none⟩ = some (.slice A1 L.length c1) := (blk_cell HC4.out 1).trans rfl
      have z4 := blk_frozen HC4.out 1
      clear ho hb hg hat
      refine hK.out _ _ (f4) (fun hHeld => ?_)
      clear hK K
      refine norm_ (a' := ?_) ?_ ?_
      rotate_left
      ·show Act.put _ (some 57) _ = _
       simp only [Act.put, sAa, sBb, sCc, i64_w, i32_w]
       rfl
      refine pu 7 58 ?_
      refine lan 8 (fun K hK => ?_)
      refine skip_ (w1 := ?_) (by rfl) rfl ?_ ?_
      rotate_left
      ·go_simp
       rfl
      refine hK.out _ _ ?_
      clear hK K
      refine done_ (by kernel_rfl) ?_
      go_wp2_with fail
      go_roundg k1
      case measure => have := HK.out; omega
      case rel =>
       refine ⟨j + 1, cP, c4, A4, (linked (P, L) 0 ((j : Int) + 1)).1, (linked (P, L) 0 ((j : Int) + 1)).2, (by first | (rw [hwj2]; rfl) | rfl | (simp; done) | (simp [hwj2]; done)), ⟨by have := HK.out; omega⟩, ⟨HB4.out.setCell HNE.out.2.1 _⟩, ⟨?_⟩, ⟨(Below.heap_setCell _ _ _ bz HNE.out.1).trans HZ4.out⟩, ⟨PB.keep HP4.out (Below.heap_setCell _ _ _ g (Ne.symm HGz.out.2))⟩, ⟨Kd.R_mono (Kd.R_far (Kd.R_types HO4.out HC4.out (by decide)) (fun k hk => hk.2) _) (fun _ _ => trivial)⟩, ⟨?_⟩⟩
       ·have := blk_set HC4.out 1 (.slice A4 (L ++ [(⟨0, (j : Int) + 1, ⟨cnt L 0, cnt L 0 + 1⟩, ⟨cnt L ((j : Int) + 1), cnt L ((j : Int) + 1) + 1⟩⟩ : S71)]).length c4)
        simpa [linked, grow_len] using this
       ·simp only [net, HN.out]
        rw [if_pos hs2]
     ·have hse : ((s : Int) == 2) = false := beq_eq_false_iff_ne.mpr (by omega)
      go_upto_region 15 with fail
      have HBd := am (below_drew HB.out)
      have HCd : Aside0 (wr.drew.heap[bc]? = some (.cells #[.slice (some ⟨g, 0, none⟩) P.length cP, .slice A1 L.length c1, .int .i64 cyc, .int .i64 60, .int .i64 100, .int .i64 0, .int .i64 dr, .int .i64 300000, .int .i64 0, .int .i64 lo, .int .i64 0, .int .i64 0, .int .i64 12] 25)) := ⟨HC.out⟩
      have HZd : Aside0 (wr.drew.heap[bz]? = some (.cells #[.slice none 0 0, .slice none 0 0, .int .i64 0, .int .i64 0, .int .i64 0, .int .i64 0, .int .i64 0, .int .i64 0, .int .i64 0, .int .i64 0, .int .i64 0, .int .i64 0, .int .i64 0] 25)) := ⟨HZ.out⟩
      have HPd : Aside0 (PB wr.drew g cP P) := ⟨HPB.out⟩
      have HRd : Aside0 (Kd.R k71 71 wr.drew w.heap.size (fun _ => True) (.slice A1 L.length c1) L) := ⟨Kd.R_drewN HR.out 1⟩
      have fd : wr.drew.cell? ⟨bc, 1, none⟩ = some (.slice A1 L.length c1) := (blk_cell HCd.out 1).trans rfl
      have HGz : Aside0 (bz ≠ g ∧ bc ≠ g) := ⟨by
       obtain ⟨cur, h1, _⟩ := HPB.out
       refine ⟨?_, ?_⟩
       ·rintro rfl
        have h2 := HZ.out
        rw [h1] at h2
        injection h2 with h2
        injection h2 with _ h2 _
        exact absurd h2 (by decide)
       ·rintro rfl
        have h2 := HC.out
        rw [h1] at h2
        injection h2 with h2
        injection h2 with _ h2 _
        exact absurd h2 (by decide)⟩
      have hA0 : Aside0 (0 ≤ ((j : Int) : Int) ∧ ((j : Int) : Int) < (P.length : Int) ∧ 0 ≤ ((j : Int) + 1 : Int) ∧ ((j : Int) + 1 : Int) < (P.length : Int)) := ⟨by have := HLen.out; have := HQ.out; omega⟩
      refine start_ (n := 9) (S := fun w' => w'.cell? ⟨bc, 1, none⟩ = some (.slice A1 L.length c1)) (ds := [8]) #[false, false, false, false, false, false, false, false, false] (by kernel_rfl) rfl rfl (fd) (fun hHeld => ?_)
      generalize wr.drew = wd at HBd HCd HZd HPd HRd fd hHeld ⊢
      refine pu 0 51 ?_
      refine pu 2 53 ?_
      refine pu 3 54 ?_
      refine tk1 1 52 ?_
      refine on 4 55 (fun K hK => ?_)
      refine goes_ Tryz.func37 (by kernel_rfl) rfl #[.pointer (some ⟨bc, 0, none⟩), .int .i64 (j : Int), .int .i64 ((j : Int) + 1)] (by rfl) rfl rfl lm ?_
      with_reducible refine (joined_walk bc g cP c1 w.heap.size A1 P L cyc 60 100 0 dr 300000 0 lo 0 0 12 (j : Int) ((j : Int) + 1) (cnt L (j : Int)) (cnt L ((j : Int) + 1)) _ _ _ HCd.out HPd.out HRd.out HNE.out.2.1 HBg.out hA0.out.1 hA0.out.2.1 hA0.out.2.2.1 hA0.out.2.2.2 (HPO.out P L _ cyc 60 100 0 dr 300000 0 lo 0 0 12 (by have := HLen.out; have := HQ.out; omega)) (HPO.out P L _ cyc 60 100 0 dr 300000 0 lo 0 0 12 (by have := HLen.out; have := HQ.out; omega)) (cnt_b L _).1 (by have := (cnt_b L (j : Int)).2; have := HLen.out; have := HQ.out; omega) (cnt_b L _).1 (by have := (cnt_b L ((j : Int) + 1)).2; have := HLen.out; have := HQ.out; omega) rfl rfl).mono ?_
      rintro e w3 ⟨rfl, hC3, hP3, hL3, hb3, hF3⟩
      have HC3 := am hC3
      have HP3 := am hP3
      have HL3 := am hL3
      have HB3 := am (HBd.out.trans hb3)
      have HZ3 := am ((hF3 bz (blk_lt HZd.out) HGz.out.1).trans HZd.out)
      have f3 : w3.cell? ⟨bc, 1, none⟩ = some (.slice A1 L.length c1) := (blk_cell HC3.out 1).trans rfl
      clear hC3 hP3 hL3 hb3 hF3
      obtain ⟨curP, HPh', _⟩ := HP3.out
      have HPh := am HPh'
      clear HPh'
      refine ⟨_, rfl, ?_⟩
      refine hK.out _ _ (f3) (fun hHeld => ?_)
      clear hK K
      refine norm_ (a' := ?_) ?_ ?_
      rotate_left
      ·show Act.put _ (some 55) _ = _
       simp only [Act.put, sAa, sBb, sCc, i64_w, i32_w]
       rfl
      refine on 5 56 (fun K hK => ?_)
      refine value_ (w1 := ?_) (v := ?_) (by rfl) rfl ?_ ?_
      rotate_left 2
      ·go_simp
       constructor
       ·rfl
       ·rfl
      refine hK.out _ _ ((World.cell?_alloc_lt _ _ _ (World.block_lt_of_cell? _ _ f3)).trans f3) (fun hHeld => ?_)
      clear hK K
      refine norm_ (a' := ?_) ?_ ?_
      rotate_left
      ·show Act.put _ (some 56) _ = _
       simp only [Act.put, sAa, sBb, sCc, i64_w, i32_w]
       rfl
      refine on 6 57 (fun K hK => ?_)
      refine Kd.R_append_step k71 (w0 := w) w.heap.size ?aW (.tmp 52) (.tmp 56) 23 71 (.agg #[.int .i64 0, .int .i64 0, .int .i64 0, .int .i64 0, .int .i64 0, .int .i64 0]) 48 rfl Tryz.underlying23 info71 rfl (by decide) (by omega) (.slice A1 L.length c1) L (⟨(j : Int), (j : Int) + 1, ⟨(cnt L (j : Int)), (cnt L (j : Int)) + 1⟩, ⟨(cnt L ((j : Int) + 1)), (cnt L ((j : Int) + 1)) + 1⟩⟩ : S71) [.int .i64 (j : Int), .int .i64 ((j : Int) + 1), .int .i64 (cnt L (j : Int)), .int .i64 ((cnt L (j : Int)) + 1), .int .i64 (cnt L ((j : Int) + 1)), .int .i64 ((cnt L ((j : Int) + 1)) + 1)] (fun _ => True) (fun _ => False) rfl rfl ?aP (fun _ hk => hk.elim) ?aF ?aO ?aB ?aS ?aL ?_
      case aW => first | rfl | decide | simp [Region.wanted]
      case aP => exact k71_mkM _ _ _ _
      case aB => exact HB3.out
      case aF => exact (fun _ _ => trivial)
      case aO => exact HL3.out
      case aS => exact HB3.out.size
      case aL => have := HLen.out; have := HQ.out; omega
      intro v4 w4 ho hb hg hat
      have HC4 := am (blk_grown HC3.out hg (Kd.R_ne HL3.out HC3.out (by decide)))
      have HZ4 := am (blk_grown HZ3.out hg (Kd.R_ne HL3.out HZ3.out (by decide)))
      have HP4 := am (PB.keep HP3.out ((blk_grown HPh.out hg (Kd.R_ne HL3.out HPh.out (by decide))).trans HPh.out.symm))
      obtain ⟨A4, c4, e4⟩ := Kd.R_slice ho
      subst e4
      have HO4 := am ho
      have HB4 := am hb
      have f4 : w4.cell? ⟨bc, 1, none⟩ = some (.slice A1 L.length c1) := (blk_cell HC4.out 1).trans rfl
      have z4 := blk_frozen HC4.out 1
      clear ho hb hg hat
      refine hK.out _ _ (f4) (fun hHeld => ?_)
      clear hK K
      refine norm_ (a' := ?_) ?_ ?_
      rotate_left
      ·show Act.put _ (some 57) _ = _
       simp only [Act.put, sAa, sBb, sCc, i64_w, i32_w]
       rfl
      refine pu 7 58 ?_
      refine lan 8 (fun K hK => ?_)
      refine skip_ (w1 := ?_) (by rfl) rfl ?_ ?_
      rotate_left
      ·go_simp
       rfl
      refine hK.out _ _ ?_
      clear hK K
      refine done_ (by kernel_rfl) ?_
      go_wp2_with fail
      go_roundg k1
      case measure => have := HK.out; omega
      case rel =>
       refine ⟨j + 1, cP, c4, A4, (linked (P, L) (j : Int) ((j : Int) + 1)).1, (linked (P, L) (j : Int) ((j : Int) + 1)).2, (by first | (rw [hwj2]; rfl) | rfl | (simp; done) | (simp [hwj2]; done)), ⟨by have := HK.out; omega⟩, ⟨HB4.out.setCell HNE.out.2.1 _⟩, ⟨?_⟩, ⟨(Below.heap_setCell _ _ _ bz HNE.out.1).trans HZ4.out⟩, ⟨PB.keep HP4.out (Below.heap_setCell _ _ _ g (Ne.symm HGz.out.2))⟩, ⟨Kd.R_mono (Kd.R_far (Kd.R_types HO4.out HC4.out (by decide)) (fun k hk => hk.2) _) (fun _ _ => trivial)⟩, ⟨?_⟩⟩
       ·have := blk_set HC4.out 1 (.slice A4 (L ++ [(⟨(j : Int), (j : Int) + 1, ⟨cnt L (j : Int), cnt L (j : Int) + 1⟩, ⟨cnt L ((j : Int) + 1), cnt L ((j : Int) + 1) + 1⟩⟩ : S71)]).length c4)
        simpa [linked, grow_len] using this
       ·simp only [net, HN.out]
        rw [if_neg hs2]
    ·have hjk : j + 1 = k := by have := HK.out; omega
     have hlt : decide ((j : Int) + 1 < (k : Int)) = false := dF (by omega)
     have z0 : (m / 2048) = (m / 2048) := rfl
     have hlo := HLO.out
     have hqb := HQ.out
     have hkl : 0 ≤ (k : Int) * (lo + 1) ∧ (k : Int) * (lo + 1) ≤ 8 := by rcases (show lo = 0 ∨ lo = 1 by omega) with h | h <;> rw [h] <;> omega
     have hkm : 0 ≤ ((k : Int) - 1) * (lo + 1) ∧ ((k : Int) - 1) * (lo + 1) ≤ 8 := by rcases (show lo = 0 ∨ lo = 1 by omega) with h | h <;> rw [h] <;> omega
     have hag := HAG.out
     have hli := HLI.out
     have z1 : wrap64 (lo + 1) = lo + 1 := by unfold wrap64; omega
     have z2 : wrap64 ((k : Int) * (lo + 1)) = (k : Int) * (lo + 1) := by unfold wrap64; omega
     have z3 : wrap64 ((k : Int) * (lo + 1) + 2) = (k : Int) * (lo + 1) + 2 := by unfold wrap64; omega
     have z4 : wrap64 ((k : Int) - 1) = (k : Int) - 1 := by unfold wrap64; omega
     have z5 : wrap64 (((k : Int) - 1) * (lo + 1)) = ((k : Int) - 1) * (lo + 1) := by unfold wrap64; omega
     have z6 : wrap64 (((k : Int) - 1) * (lo + 1) + 1) = ((k : Int) - 1) * (lo + 1) + 1 := by unfold wrap64; omega
     have z7 : wrap64 (((k : Int) - 1) * (lo + 1) + 1 + ag) = ((k : Int) - 1) * (lo + 1) + 1 + ag := by unfold wrap64; omega
     have z8 : wrap64 ((k : Int) * (lo + 1) + 2 + li) = (k : Int) * (lo + 1) + 2 + li := by unfold wrap64; omega
     have z9 : wrap64 (3 * e) = 3 * e := by have := HEB.out; unfold wrap64; omega
     clear hlo hqb hkl hkm hag hli z0
     have HPh0 : Aside0 (bc ≠ g ∧ bz ≠ g ∧ g < wr.heap.size) := ⟨by
      obtain ⟨cur, h1, _⟩ := HPB.out
      refine ⟨?_, ?_, blk_lt h1⟩
      ·rintro rfl
       have h2 := HC.out
       rw [h1] at h2
       injection h2 with h2
       injection h2 with _ h2 _
       exact absurd h2 (by decide)
      ·rintro rfl
       have h2 := HZ.out
       rw [h1] at h2
       injection h2 with h2
       injection h2 with _ h2 _
       exact absurd h2 (by decide)⟩
     by_cases hs1 : s = 1
     ·have hse : ((s : Int) == 1) = true := by rw [hs1]; rfl
      by_cases hk2 : 2 < k
      ·have hgt : decide ((2 : Int) < (k : Int)) = true := dT (by omega)
       have HMN : Aside0 (madeNet k s = linked (P, L) 0 ((k : Int) - 1)) := ⟨by unfold madeNet; rw [if_pos ⟨hs1, hk2⟩, show k - 1 = j by omega, HN.out]⟩
       go_upto_region 17 with fail
       have HBd := am (below_drew HB.out)
       have HCd : Aside0 (wr.drew.heap[bc]? = some (.cells #[.slice (some ⟨g, 0, none⟩) P.length cP, .slice A1 L.length c1, .int .i64 cyc, .int .i64 60, .int .i64 100, .int .i64 0, .int .i64 dr, .int .i64 300000, .int .i64 0, .int .i64 lo, .int .i64 0, .int .i64 0, .int .i64 12] 25)) := ⟨HC.out⟩
       have HZd : Aside0 (wr.drew.heap[bz]? = some (.cells #[.slice none 0 0, .slice none 0 0, .int .i64 0, .int .i64 0, .int .i64 0, .int .i64 0, .int .i64 0, .int .i64 0, .int .i64 0, .int .i64 0, .int .i64 0, .int .i64 0, .int .i64 0] 25)) := ⟨HZ.out⟩
       have HPd : Aside0 (PB wr.drew g cP P) := ⟨HPB.out⟩
       have HRd : Aside0 (Kd.R k71 71 wr.drew w.heap.size (fun _ => True) (.slice A1 L.length c1) L) := ⟨Kd.R_drewN HR.out 1⟩
       have fd : wr.drew.cell? ⟨bc, 1, none⟩ = some (.slice A1 L.length c1) := (blk_cell HCd.out 1).trans rfl
       have HGz : Aside0 (bz ≠ g ∧ bc ≠ g) := ⟨by
        obtain ⟨cur, h1, _⟩ := HPB.out
        refine ⟨?_, ?_⟩
        ·rintro rfl
         have h2 := HZ.out
         rw [h1] at h2
         injection h2 with h2
         injection h2 with _ h2 _
         exact absurd h2 (by decide)
        ·rintro rfl
         have h2 := HC.out
         rw [h1] at h2
         injection h2 with h2
         injection h2 with _ h2 _
         exact absurd h2 (by decide)⟩
       have hA0 : Aside0 (0 ≤ (0 : Int) ∧ (0 : Int) < (P.length : Int) ∧ 0 ≤ ((k : Int) - 1 : Int) ∧ ((k : Int) - 1 : Int) < (P.length : Int)) := ⟨by have := HLen.out; have := HQ.out; omega⟩
       refine start_ (n := 9) (S := fun w' => w'.cell? ⟨bc, 1, none⟩ = some (.slice A1 L.length c1)) (ds := [8]) #[false, false, false, false, false, false, false, false, false] (by kernel_rfl) rfl rfl (fd) (fun hHeld => ?_)
       generalize wr.drew = wd at HBd HCd HZd HPd HRd fd hHeld ⊢
       refine pu 0 65 ?_
       refine pu 2 67 ?_
       refine pu 3 68 ?_
       refine tk1 1 66 ?_
       refine on 4 69 (fun K hK => ?_)
       refine goes_ Tryz.func37 (by kernel_rfl) rfl #[.pointer (some ⟨bc, 0, none⟩), .int .i64 0, .int .i64 (wrap64 ((k : Int) - 1))] (by rfl) rfl rfl lm ?_
       rw [z4]
       with_reducible refine (joined_walk bc g cP c1 w.heap.size A1 P L cyc 60 100 0 dr 300000 0 lo 0 0 12 0 ((k : Int) - 1) (cnt L 0) (cnt L ((k : Int) - 1)) _ _ _ HCd.out HPd.out HRd.out HNE.out.2.1 HBg.out hA0.out.1 hA0.out.2.1 hA0.out.2.2.1 hA0.out.2.2.2 (HPO.out P L _ cyc 60 100 0 dr 300000 0 lo 0 0 12 (by have := HLen.out; have := HQ.out; omega)) (HPO.out P L _ cyc 60 100 0 dr 300000 0 lo 0 0 12 (by have := HLen.out; have := HQ.out; omega)) (cnt_b L _).1 (by have := (cnt_b L 0).2; have := HLen.out; have := HQ.out; omega) (cnt_b L _).1 (by have := (cnt_b L ((k : Int) - 1)).2; have := HLen.out; have := HQ.out; omega) rfl rfl).mono ?_
       rintro e w3 ⟨rfl, hC3, hP3, hL3, hb3, hF3⟩
       have HC3 := am hC3
       have HP3 := am hP3
       have HL3 := am hL3
       have HB3 := am (HBd.out.trans hb3)
       have HZ3 := am ((hF3 bz (blk_lt HZd.out) HGz.out.1).trans HZd.out)
       have f3 : w3.cell? ⟨bc, 1, none⟩ = some (.slice A1 L.length c1) := (blk_cell HC3.out 1).trans rfl
       clear hC3 hP3 hL3 hb3 hF3
       obtain ⟨curP, HPh', _⟩ := HP3.out
       have HPh := am HPh'
       clear HPh'
       refine ⟨_, rfl, ?_⟩
       refine hK.out _ _ (f3) (fun hHeld => ?_)
       clear hK K
       refine norm_ (a' := ?_) ?_ ?_
       rotate_left
       ·show Act.put _ (some 69) _ = _
        simp only [Act.put, sAa, sBb, sCc, i64_w, i32_w]
        rfl
       refine on 5 70 (fun K hK => ?_)
       refine value_ (w1 := ?_) (v := ?_) (by rfl) rfl ?_ ?_
       rotate_left 2
       ·go_simp
        constructor
        ·rfl
        ·rfl
       refine hK.out _ _ ((World.cell?_alloc_lt _ _ _ (World.block_lt_of_cell? _ _ f3)).trans f3) (fun hHeld => ?_)
       clear hK K
       refine norm_ (a' := ?_) ?_ ?_
       rotate_left
       ·show Act.put _ (some 70) _ = _
        simp only [Act.put, sAa, sBb, sCc, i64_w, i32_w]
        rfl
       refine on 6 71 (fun K hK => ?_)
       refine Kd.R_append_step k71 (w0 := w) w.heap.size ?aW (.tmp 66) (.tmp 70) 23 71 (.agg #[.int .i64 0, .int .i64 0, .int .i64 0, .int .i64 0, .int .i64 0, .int .i64 0]) 48 rfl Tryz.underlying23 info71 rfl (by decide) (by omega) (.slice A1 L.length c1) L (⟨0, (k : Int) - 1, ⟨(cnt L 0), (cnt L 0) + 1⟩, ⟨(cnt L ((k : Int) - 1)), (cnt L ((k : Int) - 1)) + 1⟩⟩ : S71) [.int .i64 0, .int .i64 ((k : Int) - 1), .int .i64 (cnt L 0), .int .i64 ((cnt L 0) + 1), .int .i64 (cnt L ((k : Int) - 1)), .int .i64 ((cnt L ((k : Int) - 1)) + 1)] (fun _ => True) (fun _ => False) rfl rfl ?aP (fun _ hk => hk.elim) ?aF ?aO ?aB ?aS ?aL ?_
       case aW => first | rfl | decide | simp [Region.wanted]
       case aP => exact k71_mkM _ _ _ _
       case aB => exact HB3.out
       case aF => exact (fun _ _ => trivial)
       case aO => exact HL3.out
       case aS => exact HB3.out.size
       case aL => have := HLen.out; have := HQ.out; omega
       intro v4 w4 ho hb hg hat
       have HC4 := am (blk_grown HC3.out hg (Kd.R_ne HL3.out HC3.out (by decide)))
       have HZ4 := am (blk_grown HZ3.out hg (Kd.R_ne HL3.out HZ3.out (by decide)))
       have HP4 := am (PB.keep HP3.out ((blk_grown HPh.out hg (Kd.R_ne HL3.out HPh.out (by decide))).trans HPh.out.symm))
       obtain ⟨A4, c4, e4⟩ := Kd.R_slice ho
       subst e4
       have HO4 := am ho
       have HB4 := am hb
       have f4 : w4.cell? ⟨bc, 1, none⟩ = some (.slice A1 L.length c1) := (blk_cell HC4.out 1).trans rfl
       have z4 := blk_frozen HC4.out 1
       clear ho hb hg hat
       refine hK.out _ _ (f4) (fun hHeld => ?_)
       clear hK K
       refine norm_ (a' := ?_) ?_ ?_
       rotate_left
       ·show Act.put _ (some 71) _ = _
        simp only [Act.put, sAa, sBb, sCc, i64_w, i32_w]
        rfl
       refine pu 7 72 ?_
       refine lan 8 (fun K hK => ?_)
       refine skip_ (w1 := ?_) (by rfl) rfl ?_ ?_
       rotate_left
       ·go_simp
        rfl
       refine hK.out _ _ ?_
       clear hK K
       refine done_ (by kernel_rfl) ?_
       have hl : (L ++ [(⟨0, (k : Int) - 1, ⟨cnt L 0, cnt L 0 + 1⟩, ⟨cnt L ((k : Int) - 1), cnt L ((k : Int) - 1) + 1⟩⟩ : S71)]).length = L.length + 1 := by simp
       rw [hl] at HO4
       obtain ⟨P2, hP2⟩ : ∃ P2, (linked (P, L) 0 ((k : Int) - 1)).1 = P2 := ⟨_, rfl⟩
       obtain ⟨L2, hL2⟩ : ∃ L2, (L ++ [(⟨0, (k : Int) - 1, ⟨cnt L 0, cnt L 0 + 1⟩, ⟨cnt L ((k : Int) - 1), cnt L ((k : Int) - 1) + 1⟩⟩ : S71)]) = L2 := ⟨_, rfl⟩
       have hlen2 : L2.length = L.length + 1 := by rw [← hL2]; exact hl
       have hlenP : P2.length = P.length := by rw [← hP2]; simp [linked, grow_len]
       have hPL : linked (P, L) 0 ((k : Int) - 1) = (P2, L2) := by rw [← hP2, ← hL2]; rfl
       have HC : Aside0 ((w4.setCell ⟨bc, 1, none⟩ (.slice A4 (L.length + 1) c4)).heap[bc]? = some (.cells #[.slice (some ⟨g, 0, none⟩) P.length cP, .slice A4 (L.length + 1) c4, .int .i64 cyc, .int .i64 60, .int .i64 100, .int .i64 0, .int .i64 dr, .int .i64 300000, .int .i64 0, .int .i64 lo, .int .i64 0, .int .i64 0, .int .i64 12] 25)) := ⟨by simpa [grow_len] using blk_set HC4.out 1 (.slice A4 (L.length + 1) c4)⟩
       have HZ : Aside0 ((w4.setCell ⟨bc, 1, none⟩ (.slice A4 (L.length + 1) c4)).heap[bz]? = some (.cells #[.slice none 0 0, .slice none 0 0, .int .i64 0, .int .i64 0, .int .i64 0, .int .i64 0, .int .i64 0, .int .i64 0, .int .i64 0, .int .i64 0, .int .i64 0, .int .i64 0, .int .i64 0] 25)) := ⟨(Below.heap_setCell _ _ _ bz HNE.out.1).trans HZ4.out⟩
       have HPB : Aside0 (PB (w4.setCell ⟨bc, 1, none⟩ (.slice A4 (L.length + 1) c4)) g cP P2) := ⟨by rw [← hP2]; exact PB.keep HP4.out (Below.heap_setCell _ _ _ g (Ne.symm HGz.out.2))⟩
       have HR : Aside0 (Kd.R k71 71 (w4.setCell ⟨bc, 1, none⟩ (.slice A4 (L.length + 1) c4)) w.heap.size (fun _ => True) (.slice A4 (L.length + 1) c4) L2) := ⟨by rw [← hL2]; exact Kd.R_mono (Kd.R_far (Kd.R_types HO4.out HC4.out (by decide)) (fun k hk => hk.2) _) (fun _ _ => trivial)⟩
       have HB : Aside0 (Below w.heap.size w (w4.setCell ⟨bc, 1, none⟩ (.slice A4 (L.length + 1) c4))) := ⟨HB4.out.setCell HNE.out.2.1 _⟩
       rw [hPL] at HMN
       generalize w4.setCell ⟨bc, 1, none⟩ (.slice A4 (L.length + 1) c4) = w8 at *
       rw [← hlen2, ← hlenP] at HC
       rw [← hlen2] at HR
       clear hl hP2 hL2 hlen2 hlenP hPL HC4 HZ4 HP4 HO4 HB4
       obtain ⟨x0, x1, x2, x3, x4, x5, x6, x7, x8, x9, x10, x11, x12⟩ := cellsK13 HC.out
       have xf8 := blk_frozen HC.out 8
       have xf10 := blk_frozen HC.out 10
       have xf11 := blk_frozen HC.out 11
       go_upto_region 22 with fail
       have HC5 : Aside0 ((((w8.setCell ⟨bc, 8, none⟩ (.int .i64 (((k : Int) - 1) * (lo + 1) + 1 + ag))).setCell ⟨bc, 10, none⟩ (.int .i64 ((k : Int) * (lo + 1) + 2 + li))).setCell ⟨bc, 11, none⟩ (.int .i64 ((k : Int) * (lo + 1) + 2))).heap[bc]? = some (.cells #[.slice (some ⟨g, 0, none⟩) P2.length cP, .slice A4 L2.length c4, .int .i64 cyc, .int .i64 60, .int .i64 100, .int .i64 0, .int .i64 dr, .int .i64 300000, .int .i64 (((k : Int) - 1) * (lo + 1) + 1 + ag), .int .i64 lo, .int .i64 ((k : Int) * (lo + 1) + 2 + li), .int .i64 ((k : Int) * (lo + 1) + 2), .int .i64 12] 25)) := ⟨by
        have h := blk_set (blk_set (blk_set HC.out 8 (.int .i64 (((k : Int) - 1) * (lo + 1) + 1 + ag))) 10 (.int .i64 ((k : Int) * (lo + 1) + 2 + li))) 11 (.int .i64 ((k : Int) * (lo + 1) + 2))
        simpa using h⟩
       have HK5 : Aside0 (∀ k', k' ≠ bc → (((w8.setCell ⟨bc, 8, none⟩ (.int .i64 (((k : Int) - 1) * (lo + 1) + 1 + ag))).setCell ⟨bc, 10, none⟩ (.int .i64 ((k : Int) * (lo + 1) + 2 + li))).setCell ⟨bc, 11, none⟩ (.int .i64 ((k : Int) * (lo + 1) + 2))).heap[k']? = w8.heap[k']?) := ⟨fun k' hk => (Below.heap_setCell _ _ _ k' hk).trans ((Below.heap_setCell _ _ _ k' hk).trans (Below.heap_setCell _ _ _ k' hk))⟩
       have HB5 : Aside0 (Below w.heap.size w (((w8.setCell ⟨bc, 8, none⟩ (.int .i64 (((k : Int) - 1) * (lo + 1) + 1 + ag))).setCell ⟨bc, 10, none⟩ (.int .i64 ((k : Int) * (lo + 1) + 2 + li))).setCell ⟨bc, 11, none⟩ (.int .i64 ((k : Int) * (lo + 1) + 2)))) := ⟨((HB.out.setCell HNE.out.2.1 _).setCell HNE.out.2.1 _).setCell HNE.out.2.1 _⟩
       clear x0 x1 x2 x3 x4 x5 x6 x7 x8 x9 x10 x11 x12 xf8 xf10 xf11
       generalize ((w8.setCell ⟨bc, 8, none⟩ (.int .i64 (((k : Int) - 1) * (lo + 1) + 1 + ag))).setCell ⟨bc, 10, none⟩ (.int .i64 ((k : Int) * (lo + 1) + 2 + li))).setCell ⟨bc, 11, none⟩ (.int .i64 ((k : Int) * (lo + 1) + 2)) = w5 at *
       have HZ5 := am ((HK5.out bz HNE.out.1).trans HZ.out)
       have HP5 := am (HPB.out.keep (HK5.out g (Ne.symm HPh0.out.1)))
       have HR5 : Aside0 (Kd.R k71 71 w5 w.heap.size (fun _ => True) (.slice A4 L2.length c4) L2) := ⟨Kd.R_mono (Kd.R_step (Kd.R_types HR.out HC.out (by decide)) (fun k' hk _ => HK5.out k' hk.2)) (fun _ _ => trivial)⟩
       obtain ⟨y0, y1, y2, y3, y4, y5, y6, y7, y8, y9, y10, y11, y12⟩ := cellsK13 HC5.out
       go_wp2_with fail
       refine (dr5_Edge.calls (some ⟨g, 0, none⟩) cP P2 A4 c4 L2 cyc 60 100 0 dr 300000 (((k : Int) - 1) * (lo + 1) + 1 + ag) lo ((k : Int) * (lo + 1) + 2 + li) ((k : Int) * (lo + 1) + 2) 12 e w5 (Kd.R_reads' (HP5.out.to_R (B := w.heap.size) (ok := fun _ => True) HBg.out trivial)).2.2 (Kd.R_reads' (HP5.out.to_R (B := w.heap.size) (ok := fun _ => True) HBg.out trivial)).2.1 (Kd.R_reads' HR5.out).2.2 (Kd.R_reads' HR5.out).2.1 (by have := HE.out; rw [HMN.out] at this; exact this)).mono ?_
       rintro e' w6 ⟨rfl, hb⟩
       have HB6 := am (below_step HB5.out hb)
       have HC6 := am ((hb.block bc (blk_lt HC5.out)).trans HC5.out)
       have HZ6 := am ((hb.block bz (blk_lt HZ5.out)).trans HZ5.out)
       have HP6 := am (HP5.out.keep (hb.block g (by obtain ⟨cur, h1, _⟩ := HP5.out; exact blk_lt h1)))
       have HR6 := am (Kd.R_below HR5.out hb)
       clear hb HB5 HC5 HZ5 HP5 HR5 HK5 y0 y1 y2 y3 y4 y5 y6 y7 y8 y9 y10 y11 y12
       have x5 : w6.cell? ⟨bc, 5, none⟩ = some (.int .i64 0) := (blk_cell HC6.out 5).trans rfl
       have xf5 := blk_frozen HC6.out 5
       go_upto_region 23 with fail
       have HC7 : Aside0 ((w6.setCell ⟨bc, 5, none⟩ (.int .i64 (3 * e))).heap[bc]? = some (.cells #[.slice (some ⟨g, 0, none⟩) P2.length cP, .slice A4 L2.length c4, .int .i64 cyc, .int .i64 60, .int .i64 100, .int .i64 (3 * e), .int .i64 dr, .int .i64 300000, .int .i64 (((k : Int) - 1) * (lo + 1) + 1 + ag), .int .i64 lo, .int .i64 ((k : Int) * (lo + 1) + 2 + li), .int .i64 ((k : Int) * (lo + 1) + 2), .int .i64 12] 25)) := ⟨by simpa using blk_set HC6.out 5 (.int .i64 (3 * e))⟩
       have HK7 : Aside0 (∀ k', k' ≠ bc → (w6.setCell ⟨bc, 5, none⟩ (.int .i64 (3 * e))).heap[k']? = w6.heap[k']?) := ⟨fun k' hk => Below.heap_setCell _ _ _ k' hk⟩
       have HB7 : Aside0 (Below w.heap.size w (w6.setCell ⟨bc, 5, none⟩ (.int .i64 (3 * e)))) := ⟨HB6.out.setCell HNE.out.2.1 _⟩
       clear x5 xf5
       generalize w6.setCell ⟨bc, 5, none⟩ (.int .i64 (3 * e)) = w7 at *
       have HZ7 := am ((HK7.out bz HNE.out.1).trans HZ6.out)
       have HP7 := am (HP6.out.keep (HK7.out g (Ne.symm HPh0.out.1)))
       have HR7 : Aside0 (Kd.R k71 71 w7 w.heap.size (fun _ => True) (.slice A4 L2.length c4) L2) := ⟨Kd.R_mono (Kd.R_step (Kd.R_types HR6.out HC6.out (by decide)) (fun k' hk _ => HK7.out k' hk.2)) (fun _ _ => trivial)⟩
       clear HB6 HC6 HZ6 HP6 HR6 HK7
       obtain ⟨y0, y1, y2, y3, y4, y5, y6, y7, y8, y9, y10, y11, y12⟩ := cellsK13 HC7.out
       have u0_ : w7.cell? ⟨bz, 0, none⟩ = some (.slice none 0 0) := (blk_cell HZ7.out 0).trans rfl
       have uf0_ := blk_frozen HZ7.out 0
       have u1_ : w7.cell? ⟨bz, 1, none⟩ = some (.slice none 0 0) := (blk_cell HZ7.out 1).trans rfl
       have uf1_ := blk_frozen HZ7.out 1
       have u2_ : w7.cell? ⟨bz, 2, none⟩ = some (.int .i64 0) := (blk_cell HZ7.out 2).trans rfl
       have uf2_ := blk_frozen HZ7.out 2
       have u3_ : w7.cell? ⟨bz, 3, none⟩ = some (.int .i64 0) := (blk_cell HZ7.out 3).trans rfl
       have uf3_ := blk_frozen HZ7.out 3
       have u4_ : w7.cell? ⟨bz, 4, none⟩ = some (.int .i64 0) := (blk_cell HZ7.out 4).trans rfl
       have uf4_ := blk_frozen HZ7.out 4
       have u5_ : w7.cell? ⟨bz, 5, none⟩ = some (.int .i64 0) := (blk_cell HZ7.out 5).trans rfl
       have uf5_ := blk_frozen HZ7.out 5
       have u6_ : w7.cell? ⟨bz, 6, none⟩ = some (.int .i64 0) := (blk_cell HZ7.out 6).trans rfl
       have uf6_ := blk_frozen HZ7.out 6
       have u7_ : w7.cell? ⟨bz, 7, none⟩ = some (.int .i64 0) := (blk_cell HZ7.out 7).trans rfl
       have uf7_ := blk_frozen HZ7.out 7
       have u8_ : w7.cell? ⟨bz, 8, none⟩ = some (.int .i64 0) := (blk_cell HZ7.out 8).trans rfl
       have uf8_ := blk_frozen HZ7.out 8
       have u9_ : w7.cell? ⟨bz, 9, none⟩ = some (.int .i64 0) := (blk_cell HZ7.out 9).trans rfl
       have uf9_ := blk_frozen HZ7.out 9
       have u10_ : w7.cell? ⟨bz, 10, none⟩ = some (.int .i64 0) := (blk_cell HZ7.out 10).trans rfl
       have uf10_ := blk_frozen HZ7.out 10
       have u11_ : w7.cell? ⟨bz, 11, none⟩ = some (.int .i64 0) := (blk_cell HZ7.out 11).trans rfl
       have uf11_ := blk_frozen HZ7.out 11
       have u12_ : w7.cell? ⟨bz, 12, none⟩ = some (.int .i64 0) := (blk_cell HZ7.out 12).trans rfl
       have uf12_ := blk_frozen HZ7.out 12
       have hnb := HNE.out.1
       have hnb' : bc ≠ bz := Ne.symm hnb
       go_wp2_with fail
       refine bodyPost_ret (results_cell_row rfl _ _ bz 25 #[.slice (some ⟨g, 0, none⟩) P2.length cP, .slice A4 L2.length c4, .int .i64 cyc, .int .i64 60, .int .i64 100, .int .i64 (3 * e), .int .i64 dr, .int .i64 300000, .int .i64 (((k : Int) - 1) * (lo + 1) + 1 + ag), .int .i64 lo, .int .i64 ((k : Int) * (lo + 1) + 2 + li), .int .i64 ((k : Int) * (lo + 1) + 2), .int .i64 12] (0, 0) _ rfl (by
        have h := blk_set (blk_set (blk_set (blk_set (blk_set (blk_set (blk_set (blk_set (blk_set (blk_set (blk_set (blk_set (blk_set (HZ7.out) 0 (.slice (some ⟨g, 0, none⟩) P2.length cP)) 1 (.slice A4 L2.length c4)) 2 (.int .i64 cyc)) 3 (.int .i64 60)) 4 (.int .i64 100)) 5 (.int .i64 (3 * e))) 6 (.int .i64 dr)) 7 (.int .i64 300000)) 8 (.int .i64 (((k : Int) - 1) * (lo + 1) + 1 + ag))) 9 (.int .i64 lo)) 10 (.int .i64 ((k : Int) * (lo + 1) + 2 + li))) 11 (.int .i64 ((k : Int) * (lo + 1) + 2))) 12 (.int .i64 12)
        simpa using h) Tryz.underlying25 rfl (by kernel_rfl)) rfl ?_
       have HK : ∀ k', k' ≠ bz → (((((((((((((w7.setCell ⟨bz, 0, none⟩ (.slice (some ⟨g, 0, none⟩) P2.length cP)).setCell ⟨bz, 1, none⟩ (.slice A4 L2.length c4)).setCell ⟨bz, 2, none⟩ (.int .i64 cyc)).setCell ⟨bz, 3, none⟩ (.int .i64 60)).setCell ⟨bz, 4, none⟩ (.int .i64 100)).setCell ⟨bz, 5, none⟩ (.int .i64 (3 * e))).setCell ⟨bz, 6, none⟩ (.int .i64 dr)).setCell ⟨bz, 7, none⟩ (.int .i64 300000)).setCell ⟨bz, 8, none⟩ (.int .i64 (((k : Int) - 1) * (lo + 1) + 1 + ag))).setCell ⟨bz, 9, none⟩ (.int .i64 lo)).setCell ⟨bz, 10, none⟩ (.int .i64 ((k : Int) * (lo + 1) + 2 + li))).setCell ⟨bz, 11, none⟩ (.int .i64 ((k : Int) * (lo + 1) + 2))).setCell ⟨bz, 12, none⟩ (.int .i64 12)).heap[k']? = w7.heap[k']? := fun k' hk => ((Below.heap_setCell _ _ _ k' hk).trans ((Below.heap_setCell _ _ _ k' hk).trans ((Below.heap_setCell _ _ _ k' hk).trans ((Below.heap_setCell _ _ _ k' hk).trans ((Below.heap_setCell _ _ _ k' hk).trans ((Below.heap_setCell _ _ _ k' hk).trans ((Below.heap_setCell _ _ _ k' hk).trans ((Below.heap_setCell _ _ _ k' hk).trans ((Below.heap_setCell _ _ _ k' hk).trans ((Below.heap_setCell _ _ _ k' hk).trans ((Below.heap_setCell _ _ _ k' hk).trans ((Below.heap_setCell _ _ _ k' hk).trans (Below.heap_setCell _ _ _ k' hk)))))))))))))
       rw [HMN.out]
       exact ⟨_, _, rfl, (HP7.out.keep (HK g (Ne.symm HPh0.out.2.1))).to_R HBg.out trivial, Kd.R_mono (Kd.R_step (Kd.R_types HR7.out HZ7.out (by decide)) (fun k' hk _ => HK k' hk.2)) (fun _ _ => trivial), (((((((((((((HB7.out.setCell HNE.out.2.2 _).setCell HNE.out.2.2 _).setCell HNE.out.2.2 _).setCell HNE.out.2.2 _).setCell HNE.out.2.2 _).setCell HNE.out.2.2 _).setCell HNE.out.2.2 _).setCell HNE.out.2.2 _).setCell HNE.out.2.2 _).setCell HNE.out.2.2 _).setCell HNE.out.2.2 _).setCell HNE.out.2.2 _).setCell HNE.out.2.2 _)⟩
      ·have hgt : decide ((2 : Int) < (k : Int)) = false := dF (by omega)
       have HMN : Aside0 (madeNet k s = (P, L)) := ⟨by unfold madeNet; rw [if_neg (fun h => hk2 h.2), show k - 1 = j by omega, HN.out]⟩
       obtain ⟨x0, x1, x2, x3, x4, x5, x6, x7, x8, x9, x10, x11, x12⟩ := cellsK13 HC.out
       have xf8 := blk_frozen HC.out 8
       have xf10 := blk_frozen HC.out 10
       have xf11 := blk_frozen HC.out 11
       go_upto_region 22 with fail
       have HC5 : Aside0 ((((wr.setCell ⟨bc, 8, none⟩ (.int .i64 (((k : Int) - 1) * (lo + 1) + 1 + ag))).setCell ⟨bc, 10, none⟩ (.int .i64 ((k : Int) * (lo + 1) + 2 + li))).setCell ⟨bc, 11, none⟩ (.int .i64 ((k : Int) * (lo + 1) + 2))).heap[bc]? = some (.cells #[.slice (some ⟨g, 0, none⟩) P.length cP, .slice A1 L.length c1, .int .i64 cyc, .int .i64 60, .int .i64 100, .int .i64 0, .int .i64 dr, .int .i64 300000, .int .i64 (((k : Int) - 1) * (lo + 1) + 1 + ag), .int .i64 lo, .int .i64 ((k : Int) * (lo + 1) + 2 + li), .int .i64 ((k : Int) * (lo + 1) + 2), .int .i64 12] 25)) := ⟨by
        have h := blk_set (blk_set (blk_set HC.out 8 (.int .i64 (((k : Int) - 1) * (lo + 1) + 1 + ag))) 10 (.int .i64 ((k : Int) * (lo + 1) + 2 + li))) 11 (.int .i64 ((k : Int) * (lo + 1) + 2))
        simpa using h⟩
       have HK5 : Aside0 (∀ k', k' ≠ bc → (((wr.setCell ⟨bc, 8, none⟩ (.int .i64 (((k : Int) - 1) * (lo + 1) + 1 + ag))).setCell ⟨bc, 10, none⟩ (.int .i64 ((k : Int) * (lo + 1) + 2 + li))).setCell ⟨bc, 11, none⟩ (.int .i64 ((k : Int) * (lo + 1) + 2))).heap[k']? = wr.heap[k']?) := ⟨fun k' hk => (Below.heap_setCell _ _ _ k' hk).trans ((Below.heap_setCell _ _ _ k' hk).trans (Below.heap_setCell _ _ _ k' hk))⟩
       have HB5 : Aside0 (Below w.heap.size w (((wr.setCell ⟨bc, 8, none⟩ (.int .i64 (((k : Int) - 1) * (lo + 1) + 1 + ag))).setCell ⟨bc, 10, none⟩ (.int .i64 ((k : Int) * (lo + 1) + 2 + li))).setCell ⟨bc, 11, none⟩ (.int .i64 ((k : Int) * (lo + 1) + 2)))) := ⟨((HB.out.setCell HNE.out.2.1 _).setCell HNE.out.2.1 _).setCell HNE.out.2.1 _⟩
       clear x0 x1 x2 x3 x4 x5 x6 x7 x8 x9 x10 x11 x12 xf8 xf10 xf11
       generalize ((wr.setCell ⟨bc, 8, none⟩ (.int .i64 (((k : Int) - 1) * (lo + 1) + 1 + ag))).setCell ⟨bc, 10, none⟩ (.int .i64 ((k : Int) * (lo + 1) + 2 + li))).setCell ⟨bc, 11, none⟩ (.int .i64 ((k : Int) * (lo + 1) + 2)) = w5 at *
       have HZ5 := am ((HK5.out bz HNE.out.1).trans HZ.out)
       have HP5 := am (HPB.out.keep (HK5.out g (Ne.symm HPh0.out.1)))
       have HR5 : Aside0 (Kd.R k71 71 w5 w.heap.size (fun _ => True) (.slice A1 L.length c1) L) := ⟨Kd.R_mono (Kd.R_step (Kd.R_types HR.out HC.out (by decide)) (fun k' hk _ => HK5.out k' hk.2)) (fun _ _ => trivial)⟩
       obtain ⟨y0, y1, y2, y3, y4, y5, y6, y7, y8, y9, y10, y11, y12⟩ := cellsK13 HC5.out
       go_wp2_with fail
       refine (dr5_Edge.calls (some ⟨g, 0, none⟩) cP P A1 c1 L cyc 60 100 0 dr 300000 (((k : Int) - 1) * (lo + 1) + 1 + ag) lo ((k : Int) * (lo + 1) + 2 + li) ((k : Int) * (lo + 1) + 2) 12 e w5 (Kd.R_reads' (HP5.out.to_R (B := w.heap.size) (ok := fun _ => True) HBg.out trivial)).2.2 (Kd.R_reads' (HP5.out.to_R (B := w.heap.size) (ok := fun _ => True) HBg.out trivial)).2.1 (Kd.R_reads' HR5.out).2.2 (Kd.R_reads' HR5.out).2.1 (by have := HE.out; rw [HMN.out] at this; exact this)).mono ?_
       rintro e' w6 ⟨rfl, hb⟩
       have HB6 := am (below_step HB5.out hb)
       have HC6 := am ((hb.block bc (blk_lt HC5.out)).trans HC5.out)
       have HZ6 := am ((hb.block bz (blk_lt HZ5.out)).trans HZ5.out)
       have HP6 := am (HP5.out.keep (hb.block g (by obtain ⟨cur, h1, _⟩ := HP5.out; exact blk_lt h1)))
       have HR6 := am (Kd.R_below HR5.out hb)
       clear hb HB5 HC5 HZ5 HP5 HR5 HK5 y0 y1 y2 y3 y4 y5 y6 y7 y8 y9 y10 y11 y12
       have x5 : w6.cell? ⟨bc, 5, none⟩ = some (.int .i64 0) := (blk_cell HC6.out 5).trans rfl
       have xf5 := blk_frozen HC6.out 5
       go_upto_region 23 with fail
       have HC7 : Aside0 ((w6.setCell ⟨bc, 5, none⟩ (.int .i64 (3 * e))).heap[bc]? = some (.cells #[.slice (some ⟨g, 0, none⟩) P.length cP, .slice A1 L.length c1, .int .i64 cyc, .int .i64 60, .int .i64 100, .int .i64 (3 * e), .int .i64 dr, .int .i64 300000, .int .i64 (((k : Int) - 1) * (lo + 1) + 1 + ag), .int .i64 lo, .int .i64 ((k : Int) * (lo + 1) + 2 + li), .int .i64 ((k : Int) * (lo + 1) + 2), .int .i64 12] 25)) := ⟨by simpa using blk_set HC6.out 5 (.int .i64 (3 * e))⟩
       have HK7 : Aside0 (∀ k', k' ≠ bc → (w6.setCell ⟨bc, 5, none⟩ (.int .i64 (3 * e))).heap[k']? = w6.heap[k']?) := ⟨fun k' hk => Below.heap_setCell _ _ _ k' hk⟩
       have HB7 : Aside0 (Below w.heap.size w (w6.setCell ⟨bc, 5, none⟩ (.int .i64 (3 * e)))) := ⟨HB6.out.setCell HNE.out.2.1 _⟩
       clear x5 xf5
       generalize w6.setCell ⟨bc, 5, none⟩ (.int .i64 (3 * e)) = w7 at *
       have HZ7 := am ((HK7.out bz HNE.out.1).trans HZ6.out)
       have HP7 := am (HP6.out.keep (HK7.out g (Ne.symm HPh0.out.1)))
       have HR7 : Aside0 (Kd.R k71 71 w7 w.heap.size (fun _ => True) (.slice A1 L.length c1) L) := ⟨Kd.R_mono (Kd.R_step (Kd.R_types HR6.out HC6.out (by decide)) (fun k' hk _ => HK7.out k' hk.2)) (fun _ _ => trivial)⟩
       clear HB6 HC6 HZ6 HP6 HR6 HK7
       obtain ⟨y0, y1, y2, y3, y4, y5, y6, y7, y8, y9, y10, y11, y12⟩ := cellsK13 HC7.out
       have u0_ : w7.cell? ⟨bz, 0, none⟩ = some (.slice none 0 0) := (blk_cell HZ7.out 0).trans rfl
       have uf0_ := blk_frozen HZ7.out 0
       have u1_ : w7.cell? ⟨bz, 1, none⟩ = some (.slice none 0 0) := (blk_cell HZ7.out 1).trans rfl
       have uf1_ := blk_frozen HZ7.out 1
       have u2_ : w7.cell? ⟨bz, 2, none⟩ = some (.int .i64 0) := (blk_cell HZ7.out 2).trans rfl
       have uf2_ := blk_frozen HZ7.out 2
       have u3_ : w7.cell? ⟨bz, 3, none⟩ = some (.int .i64 0) := (blk_cell HZ7.out 3).trans rfl
       have uf3_ := blk_frozen HZ7.out 3
       have u4_ : w7.cell? ⟨bz, 4, none⟩ = some (.int .i64 0) := (blk_cell HZ7.out 4).trans rfl
       have uf4_ := blk_frozen HZ7.out 4
       have u5_ : w7.cell? ⟨bz, 5, none⟩ = some (.int .i64 0) := (blk_cell HZ7.out 5).trans rfl
       have uf5_ := blk_frozen HZ7.out 5
       have u6_ : w7.cell? ⟨bz, 6, none⟩ = some (.int .i64 0) := (blk_cell HZ7.out 6).trans rfl
       have uf6_ := blk_frozen HZ7.out 6
       have u7_ : w7.cell? ⟨bz, 7, none⟩ = some (.int .i64 0) := (blk_cell HZ7.out 7).trans rfl
       have uf7_ := blk_frozen HZ7.out 7
       have u8_ : w7.cell? ⟨bz, 8, none⟩ = some (.int .i64 0) := (blk_cell HZ7.out 8).trans rfl
       have uf8_ := blk_frozen HZ7.out 8
       have u9_ : w7.cell? ⟨bz, 9, none⟩ = some (.int .i64 0) := (blk_cell HZ7.out 9).trans rfl
       have uf9_ := blk_frozen HZ7.out 9
       have u10_ : w7.cell? ⟨bz, 10, none⟩ = some (.int .i64 0) := (blk_cell HZ7.out 10).trans rfl
       have uf10_ := blk_frozen HZ7.out 10
       have u11_ : w7.cell? ⟨bz, 11, none⟩ = some (.int .i64 0) := (blk_cell HZ7.out 11).trans rfl
       have uf11_ := blk_frozen HZ7.out 11
       have u12_ : w7.cell? ⟨bz, 12, none⟩ = some (.int .i64 0) := (blk_cell HZ7.out 12).trans rfl
       have uf12_ := blk_frozen HZ7.out 12
       have hnb := HNE.out.1
       have hnb' : bc ≠ bz := Ne.symm hnb
       go_wp2_with fail
       refine bodyPost_ret (results_cell_row rfl _ _ bz 25 #[.slice (some ⟨g, 0, none⟩) P.length cP, .slice A1 L.length c1, .int .i64 cyc, .int .i64 60, .int .i64 100, .int .i64 (3 * e), .int .i64 dr, .int .i64 300000, .int .i64 (((k : Int) - 1) * (lo + 1) + 1 + ag), .int .i64 lo, .int .i64 ((k : Int) * (lo + 1) + 2 + li), .int .i64 ((k : Int) * (lo + 1) + 2), .int .i64 12] (0, 0) _ rfl (by
        have h := blk_set (blk_set (blk_set (blk_set (blk_set (blk_set (blk_set (blk_set (blk_set (blk_set (blk_set (blk_set (blk_set (HZ7.out) 0 (.slice (some ⟨g, 0, none⟩) P.length cP)) 1 (.slice A1 L.length c1)) 2 (.int .i64 cyc)) 3 (.int .i64 60)) 4 (.int .i64 100)) 5 (.int .i64 (3 * e))) 6 (.int .i64 dr)) 7 (.int .i64 300000)) 8 (.int .i64 (((k : Int) - 1) * (lo + 1) + 1 + ag))) 9 (.int .i64 lo)) 10 (.int .i64 ((k : Int) * (lo + 1) + 2 + li))) 11 (.int .i64 ((k : Int) * (lo + 1) + 2))) 12 (.int .i64 12)
        simpa using h) Tryz.underlying25 rfl (by kernel_rfl)) rfl ?_
       have HK : ∀ k', k' ≠ bz → (((((((((((((w7.setCell ⟨bz, 0, none⟩ (.slice (some ⟨g, 0, none⟩) P.length cP)).setCell ⟨bz, 1, none⟩ (.slice A1 L.length c1)).setCell ⟨bz, 2, none⟩ (.int .i64 cyc)).setCell ⟨bz, 3, none⟩ (.int .i64 60)).setCell ⟨bz, 4, none⟩ (.int .i64 100)).setCell ⟨bz, 5, none⟩ (.int .i64 (3 * e))).setCell ⟨bz, 6, none⟩ (.int .i64 dr)).setCell ⟨bz, 7, none⟩ (.int .i64 300000)).setCell ⟨bz, 8, none⟩ (.int .i64 (((k : Int) - 1) * (lo + 1) + 1 + ag))).setCell ⟨bz, 9, none⟩ (.int .i64 lo)).setCell ⟨bz, 10, none⟩ (.int .i64 ((k : Int) * (lo + 1) + 2 + li))).setCell ⟨bz, 11, none⟩ (.int .i64 ((k : Int) * (lo + 1) + 2))).setCell ⟨bz, 12, none⟩ (.int .i64 12)).heap[k']? = w7.heap[k']? := fun k' hk => ((Below.heap_setCell _ _ _ k' hk).trans ((Below.heap_setCell _ _ _ k' hk).trans ((Below.heap_setCell _ _ _ k' hk).trans ((Below.heap_setCell _ _ _ k' hk).trans ((Below.heap_setCell _ _ _ k' hk).trans ((Below.heap_setCell _ _ _ k' hk).trans ((Below.heap_setCell _ _ _ k' hk).trans ((Below.heap_setCell _ _ _ k' hk).trans ((Below.heap_setCell _ _ _ k' hk).trans ((Below.heap_setCell _ _ _ k' hk).trans ((Below.heap_setCell _ _ _ k' hk).trans ((Below.heap_setCell _ _ _ k' hk).trans (Below.heap_setCell _ _ _ k' hk)))))))))))))
       rw [HMN.out]
       exact ⟨_, _, rfl, (HP7.out.keep (HK g (Ne.symm HPh0.out.2.1))).to_R HBg.out trivial, Kd.R_mono (Kd.R_step (Kd.R_types HR7.out HZ7.out (by decide)) (fun k' hk _ => HK k' hk.2)) (fun _ _ => trivial), (((((((((((((HB7.out.setCell HNE.out.2.2 _).setCell HNE.out.2.2 _).setCell HNE.out.2.2 _).setCell HNE.out.2.2 _).setCell HNE.out.2.2 _).setCell HNE.out.2.2 _).setCell HNE.out.2.2 _).setCell HNE.out.2.2 _).setCell HNE.out.2.2 _).setCell HNE.out.2.2 _).setCell HNE.out.2.2 _).setCell HNE.out.2.2 _).setCell HNE.out.2.2 _)⟩
     ·have hse : ((s : Int) == 1) = false := beq_eq_false_iff_ne.mpr (by omega)
      have HMN : Aside0 (madeNet k s = (P, L)) := ⟨by unfold madeNet; rw [if_neg (fun h => hs1 h.1), show k - 1 = j by omega, HN.out]⟩
      obtain ⟨x0, x1, x2, x3, x4, x5, x6, x7, x8, x9, x10, x11, x12⟩ := cellsK13 HC.out
      have xf8 := blk_frozen HC.out 8
      have xf10 := blk_frozen HC.out 10
      have xf11 := blk_frozen HC.out 11
      go_upto_region 22 with fail
      have HC5 : Aside0 ((((wr.setCell ⟨bc, 8, none⟩ (.int .i64 (((k : Int) - 1) * (lo + 1) + 1 + ag))).setCell ⟨bc, 10, none⟩ (.int .i64 ((k : Int) * (lo + 1) + 2 + li))).setCell ⟨bc, 11, none⟩ (.int .i64 ((k : Int) * (lo + 1) + 2))).heap[bc]? = some (.cells #[.slice (some ⟨g, 0, none⟩) P.length cP, .slice A1 L.length c1, .int .i64 cyc, .int .i64 60, .int .i64 100, .int .i64 0, .int .i64 dr, .int .i64 300000, .int .i64 (((k : Int) - 1) * (lo + 1) + 1 + ag), .int .i64 lo, .int .i64 ((k : Int) * (lo + 1) + 2 + li), .int .i64 ((k : Int) * (lo + 1) + 2), .int .i64 12] 25)) := ⟨by
       have h := blk_set (blk_set (blk_set HC.out 8 (.int .i64 (((k : Int) - 1) * (lo + 1) + 1 + ag))) 10 (.int .i64 ((k : Int) * (lo + 1) + 2 + li))) 11 (.int .i64 ((k : Int) * (lo + 1) + 2))
       simpa using h⟩
      have HK5 : Aside0 (∀ k', k' ≠ bc → (((wr.setCell ⟨bc, 8, none⟩ (.int .i64 (((k : Int) - 1) * (lo + 1) + 1 + ag))).setCell ⟨bc, 10, none⟩ (.int .i64 ((k : Int) * (lo + 1) + 2 + li))).setCell ⟨bc, 11, none⟩ (.int .i64 ((k : Int) * (lo + 1) + 2))).heap[k']? = wr.heap[k']?) := ⟨fun k' hk => (Below.heap_setCell _ _ _ k' hk).trans ((Below.heap_setCell _ _ _ k' hk).trans (Below.heap_setCell _ _ _ k' hk))⟩
      have HB5 : Aside0 (Below w.heap.size w (((wr.setCell ⟨bc, 8, none⟩ (.int .i64 (((k : Int) - 1) * (lo + 1) + 1 + ag))).setCell ⟨bc, 10, none⟩ (.int .i64 ((k : Int) * (lo + 1) + 2 + li))).setCell ⟨bc, 11, none⟩ (.int .i64 ((k : Int) * (lo + 1) + 2)))) := ⟨((HB.out.setCell HNE.out.2.1 _).setCell HNE.out.2.1 _).setCell HNE.out.2.1 _⟩
      clear x0 x1 x2 x3 x4 x5 x6 x7 x8 x9 x10 x11 x12 xf8 xf10 xf11
      generalize ((wr.setCell ⟨bc, 8, none⟩ (.int .i64 (((k : Int) - 1) * (lo + 1) + 1 + ag))).setCell ⟨bc, 10, none⟩ (.int .i64 ((k : Int) * (lo + 1) + 2 + li))).setCell ⟨bc, 11, none⟩ (.int .i64 ((k : Int) * (lo + 1) + 2)) = w5 at *
      have HZ5 := am ((HK5.out bz HNE.out.1).trans HZ.out)
      have HP5 := am (HPB.out.keep (HK5.out g (Ne.symm HPh0.out.1)))
      have HR5 : Aside0 (Kd.R k71 71 w5 w.heap.size (fun _ => True) (.slice A1 L.length c1) L) := ⟨Kd.R_mono (Kd.R_step (Kd.R_types HR.out HC.out (by decide)) (fun k' hk _ => HK5.out k' hk.2)) (fun _ _ => trivial)⟩
      obtain ⟨y0, y1, y2, y3, y4, y5, y6, y7, y8, y9, y10, y11, y12⟩ := cellsK13 HC5.out
      go_wp2_with fail
      refine (dr5_Edge.calls (some ⟨g, 0, none⟩) cP P A1 c1 L cyc 60 100 0 dr 300000 (((k : Int) - 1) * (lo + 1) + 1 + ag) lo ((k : Int) * (lo + 1) + 2 + li) ((k : Int) * (lo + 1) + 2) 12 e w5 (Kd.R_reads' (HP5.out.to_R (B := w.heap.size) (ok := fun _ => True) HBg.out trivial)).2.2 (Kd.R_reads' (HP5.out.to_R (B := w.heap.size) (ok := fun _ => True) HBg.out trivial)).2.1 (Kd.R_reads' HR5.out).2.2 (Kd.R_reads' HR5.out).2.1 (by have := HE.out; rw [HMN.out] at this; exact this)).mono ?_
      rintro e' w6 ⟨rfl, hb⟩
      have HB6 := am (below_step HB5.out hb)
      have HC6 := am ((hb.block bc (blk_lt HC5.out)).trans HC5.out)
      have HZ6 := am ((hb.block bz (blk_lt HZ5.out)).trans HZ5.out)
      have HP6 := am (HP5.out.keep (hb.block g (by obtain ⟨cur, h1, _⟩ := HP5.out; exact blk_lt h1)))
      have HR6 := am (Kd.R_below HR5.out hb)
      clear hb HB5 HC5 HZ5 HP5 HR5 HK5 y0 y1 y2 y3 y4 y5 y6 y7 y8 y9 y10 y11 y12
      have x5 : w6.cell? ⟨bc, 5, none⟩ = some (.int .i64 0) := (blk_cell HC6.out 5).trans rfl
      have xf5 := blk_frozen HC6.out 5
      go_upto_region 23 with fail
      have HC7 : Aside0 ((w6.setCell ⟨bc, 5, none⟩ (.int .i64 (3 * e))).heap[bc]? = some (.cells #[.slice (some ⟨g, 0, none⟩) P.length cP, .slice A1 L.length c1, .int .i64 cyc, .int .i64 60, .int .i64 100, .int .i64 (3 * e), .int .i64 dr, .int .i64 300000, .int .i64 (((k : Int) - 1) * (lo + 1) + 1 + ag), .int .i64 lo, .int .i64 ((k : Int) * (lo + 1) + 2 + li), .int .i64 ((k : Int) * (lo + 1) + 2), .int .i64 12] 25)) := ⟨by simpa using blk_set HC6.out 5 (.int .i64 (3 * e))⟩
      have HK7 : Aside0 (∀ k', k' ≠ bc → (w6.setCell ⟨bc, 5, none⟩ (.int .i64 (3 * e))).heap[k']? = w6.heap[k']?) := ⟨fun k' hk => Below.heap_setCell _ _ _ k' hk⟩
      have HB7 : Aside0 (Below w.heap.size w (w6.setCell ⟨bc, 5, none⟩ (.int .i64 (3 * e)))) := ⟨HB6.out.setCell HNE.out.2.1 _⟩
      clear x5 xf5
      generalize w6.setCell ⟨bc, 5, none⟩ (.int .i64 (3 * e)) = w7 at *
      have HZ7 := am ((HK7.out bz HNE.out.1).trans HZ6.out)
      have HP7 := am (HP6.out.keep (HK7.out g (Ne.symm HPh0.out.1)))
      have HR7 : Aside0 (Kd.R k71 71 w7 w.heap.size (fun _ => True) (.slice A1 L.length c1) L) := ⟨Kd.R_mono (Kd.R_step (Kd.R_types HR6.out HC6.out (by decide)) (fun k' hk _ => HK7.out k' hk.2)) (fun _ _ => trivial)⟩
      clear HB6 HC6 HZ6 HP6 HR6 HK7
      obtain ⟨y0, y1, y2, y3, y4, y5, y6, y7, y8, y9, y10, y11, y12⟩ := cellsK13 HC7.out
      have u0_ : w7.cell? ⟨bz, 0, none⟩ = some (.slice none 0 0) := (blk_cell HZ7.out 0).trans rfl
      have uf0_ := blk_frozen HZ7.out 0
      have u1_ : w7.cell? ⟨bz, 1, none⟩ = some (.slice none 0 0) := (blk_cell HZ7.out 1).trans rfl
      have uf1_ := blk_frozen HZ7.out 1
      have u2_ : w7.cell? ⟨bz, 2, none⟩ = some (.int .i64 0) := (blk_cell HZ7.out 2).trans rfl
      have uf2_ := blk_frozen HZ7.out 2
      have u3_ : w7.cell? ⟨bz, 3, none⟩ = some (.int .i64 0) := (blk_cell HZ7.out 3).trans rfl
      have uf3_ := blk_frozen HZ7.out 3
      have u4_ : w7.cell? ⟨bz, 4, none⟩ = some (.int .i64 0) := (blk_cell HZ7.out 4).trans rfl
      have uf4_ := blk_frozen HZ7.out 4
      have u5_ : w7.cell? ⟨bz, 5, none⟩ = some (.int .i64 0) := (blk_cell HZ7.out 5).trans rfl
      have uf5_ := blk_frozen HZ7.out 5
      have u6_ : w7.cell? ⟨bz, 6, none⟩ = some (.int .i64 0) := (blk_cell HZ7.out 6).trans rfl
      have uf6_ := blk_frozen HZ7.out 6
      have u7_ : w7.cell? ⟨bz, 7, none⟩ = some (.int .i64 0) := (blk_cell HZ7.out 7).trans rfl
      have uf7_ := blk_frozen HZ7.out 7
      have u8_ : w7.cell? ⟨bz, 8, none⟩ = some (.int .i64 0) := (blk_cell HZ7.out 8).trans rfl
      have uf8_ := blk_frozen HZ7.out 8
      have u9_ : w7.cell? ⟨bz, 9, none⟩ = some (.int .i64 0) := (blk_cell HZ7.out 9).trans rfl
      have uf9_ := blk_frozen HZ7.out 9
      have u10_ : w7.cell? ⟨bz, 10, none⟩ = some (.int .i64 0) := (blk_cell HZ7.out 10).trans rfl
      have uf10_ := blk_frozen HZ7.out 10
      have u11_ : w7.cell? ⟨bz, 11, none⟩ = some (.int .i64 0) := (blk_cell HZ7.out 11).trans rfl
      have uf11_ := blk_frozen HZ7.out 11
      have u12_ : w7.cell? ⟨bz, 12, none⟩ = some (.int .i64 0) := (blk_cell HZ7.out 12).trans rfl
      have uf12_ := blk_frozen HZ7.out 12
      have hnb := HNE.out.1
      have hnb' : bc ≠ bz := Ne.symm hnb
      go_wp2_with fail
      refine bodyPost_ret (results_cell_row rfl _ _ bz 25 #[.slice (some ⟨g, 0, none⟩) P.length cP, .slice A1 L.length c1, .int .i64 cyc, .int .i64 60, .int .i64 100, .int .i64 (3 * e), .int .i64 dr, .int .i64 300000, .int .i64 (((k : Int) - 1) * (lo + 1) + 1 + ag), .int .i64 lo, .int .i64 ((k : Int) * (lo + 1) + 2 + li), .int .i64 ((k : Int) * (lo + 1) + 2), .int .i64 12] (0, 0) _ rfl (by
       have h := blk_set (blk_set (blk_set (blk_set (blk_set (blk_set (blk_set (blk_set (blk_set (blk_set (blk_set (blk_set (blk_set (HZ7.out) 0 (.slice (some ⟨g, 0, none⟩) P.length cP)) 1 (.slice A1 L.length c1)) 2 (.int .i64 cyc)) 3 (.int .i64 60)) 4 (.int .i64 100)) 5 (.int .i64 (3 * e))) 6 (.int .i64 dr)) 7 (.int .i64 300000)) 8 (.int .i64 (((k : Int) - 1) * (lo + 1) + 1 + ag))) 9 (.int .i64 lo)) 10 (.int .i64 ((k : Int) * (lo + 1) + 2 + li))) 11 (.int .i64 ((k : Int) * (lo + 1) + 2))) 12 (.int .i64 12)
       simpa using h) Tryz.underlying25 rfl (by kernel_rfl)) rfl ?_
      have HK : ∀ k', k' ≠ bz → (((((((((((((w7.setCell ⟨bz, 0, none⟩ (.slice (some ⟨g, 0, none⟩) P.length cP)).setCell ⟨bz, 1, none⟩ (.slice A1 L.length c1)).setCell ⟨bz, 2, none⟩ (.int .i64 cyc)).setCell ⟨bz, 3, none⟩ (.int .i64 60)).setCell ⟨bz, 4, none⟩ (.int .i64 100)).setCell ⟨bz, 5, none⟩ (.int .i64 (3 * e))).setCell ⟨bz, 6, none⟩ (.int .i64 dr)).setCell ⟨bz, 7, none⟩ (.int .i64 300000)).setCell ⟨bz, 8, none⟩ (.int .i64 (((k : Int) - 1) * (lo + 1) + 1 + ag))).setCell ⟨bz, 9, none⟩ (.int .i64 lo)).setCell ⟨bz, 10, none⟩ (.int .i64 ((k : Int) * (lo + 1) + 2 + li))).setCell ⟨bz, 11, none⟩ (.int .i64 ((k : Int) * (lo + 1) + 2))).setCell ⟨bz, 12, none⟩ (.int .i64 12)).heap[k']? = w7.heap[k']? := fun k' hk => ((Below.heap_setCell _ _ _ k' hk).trans ((Below.heap_setCell _ _ _ k' hk).trans ((Below.heap_setCell _ _ _ k' hk).trans ((Below.heap_setCell _ _ _ k' hk).trans ((Below.heap_setCell _ _ _ k' hk).trans ((Below.heap_setCell _ _ _ k' hk).trans ((Below.heap_setCell _ _ _ k' hk).trans ((Below.heap_setCell _ _ _ k' hk).trans ((Below.heap_setCell _ _ _ k' hk).trans ((Below.heap_setCell _ _ _ k' hk).trans ((Below.heap_setCell _ _ _ k' hk).trans ((Below.heap_setCell _ _ _ k' hk).trans (Below.heap_setCell _ _ _ k' hk)))))))))))))
      rw [HMN.out]
      exact ⟨_, _, rfl, (HP7.out.keep (HK g (Ne.symm HPh0.out.2.1))).to_R HBg.out trivial, Kd.R_mono (Kd.R_step (Kd.R_types HR7.out HZ7.out (by decide)) (fun k' hk _ => HK k' hk.2)) (fun _ _ => trivial), (((((((((((((HB7.out.setCell HNE.out.2.2 _).setCell HNE.out.2.2 _).setCell HNE.out.2.2 _).setCell HNE.out.2.2 _).setCell HNE.out.2.2 _).setCell HNE.out.2.2 _).setCell HNE.out.2.2 _).setCell HNE.out.2.2 _).setCell HNE.out.2.2 _).setCell HNE.out.2.2 _).setCell HNE.out.2.2 _).setCell HNE.out.2.2 _).setCell HNE.out.2.2 _)⟩
end Go.Proofs.YtbefbhghmommhaaGreatDoor.MWo
